/- Words, walks and plain laws that the claim rests on, gathered. -/
import Derived.Lib.ConvBytes
import Derived.Shelf.Strings.Builder1
import Derived.Shelf.Strings.Builder2
import Derived.Shelf.Strings.OnBuilder
import Derived.Shelf.Small.Bits
import Derived.Shelf.Small.Strs
import Derived.Shelf.Strconv.Itoa0
import Derived.Shelf.Strings.Search1
import Derived.Shelf.Strings.Search2
import Derived.Shelf.Strings.Search3
import Derived.Shelf.Strings.Cut
import Derived.Shelf.Strings.Count
import Derived.Shelf.LaysM
import Derived.Shelf.Strings.Shaped
import Derived.Shelf.Sort.Plain
import Derived.Shelf.Strings.Prefix
import Derived.Shelf.Strings.Split
import Derived.Shelf.Strings.SplitShaped
import Derived.Shelf.Unicode.DecodeSlow
import Derived.Shelf.Slices.In.SortNone
import Derived.Shelf.Slices.In.SortNone2
import Derived.Test.YthdoohfdminfgaaGreatDoorProg
import Derived.Below
import Derived.Deep.Draws
import Derived.Deep.AppendLies
import Derived.Maps.AppendAt
import Derived.OwnWalk
import Derived.Laws.BytesArg
import Derived.Laws.MakeOwn
import Derived.Laws.OwnMore
import Derived.Deep.OwnRows
import Derived.Tactics
import Derived.Laws.Slices
import Derived.WalkKit
import Derived.KernelRfl
import Derived.RowKit3
import Derived.Deep.LoopGhost
import Derived.Deep.QuietTactic
import Derived.BigQuiet
import Derived.WideLaws
import Derived.Deep.DeepCutAuto
import Derived.Deep.CutBlock
import Derived.Deep.RegionHeld3
import Derived.Laws.Rows
import Derived.Lib.AppendStr
import Derived.ArgAppend
import Derived.Laws.IdiomCopy
import Derived.RowKit
import Derived.WalkSpells
import Derived.OrdersHeld
import Derived.Laws.BitsLemmas
import Derived.WalkLawsBesides
import Derived.Lib.SplitLaws
import Derived.Laws.StructEq
import Derived.Sort.Walk0
import Derived.Lib.Join
import Derived.Deep.Slices
import Derived.Deep.Strs
import Derived.ChangeSame
import Derived.WideShapes
import Derived.Test.YthdoohfdminfgaaGreatDoorNC0
import Derived.Test.YthdoohfdminfgaaGreatDoorNC1
import Derived.Test.YthdoohfdminfgaaGreatDoorNC2
import Derived.Test.YthdoohfdminfgaaGreatDoorNC3
import Derived.Test.YthdoohfdminfgaaGreatDoorNC4
import Derived.Test.YthdoohfdminfgaaGreatDoorNC5
import Derived.Test.YthdoohfdminfgaaGreatDoorNC6
import Derived.Test.YthdoohfdminfgaaGreatDoorNC7
import Derived.Test.YthdoohfdminfgaaGreatDoorNC8
import Derived.Test.YthdoohfdminfgaaGreatDoorNC9
import Derived.Test.YthdoohfdminfgaaGreatDoorNC10
import Derived.Test.YthdoohfdminfgaaGreatDoorNC11
import Derived.Test.YthdoohfdminfgaaGreatDoorNC12
import Derived.Test.YthdoohfdminfgaaGreatDoorNC13
import Derived.Test.YthdoohfdminfgaaGreatDoorNC14
import Derived.Test.YthdoohfdminfgaaGreatDoorNC15
import Derived.Test.YthdoohfdminfgaaGreatDoorNC16
import Derived.Test.YthdoohfdminfgaaGreatDoorNC17
import Derived.Test.YthdoohfdminfgaaGreatDoorNCc
namespace Go.Proofs.YthdoohfdminfgaaGreatDoorW.PrintLast
end Go.Proofs.YthdoohfdminfgaaGreatDoorW.PrintLast
namespace Go.Proofs.YthdoohfdminfgaaGreatDoorW.PrintMore
end Go.Proofs.YthdoohfdminfgaaGreatDoorW.PrintMore
namespace Go.Proofs.YthdoohfdminfgaaGreatDoorW.PrintWords
end Go.Proofs.YthdoohfdminfgaaGreatDoorW.PrintWords
section
namespace Go.Proofs.YthdoohfdminfgaaGreatDoor.Pl
open Go.RowKit Go.Proofs.YthdoohfdminfgaaGreatDoorW.PrintWords Go.Proofs.YthdoohfdminfgaaGreatDoor.C
set_option linter.unusedSimpArgs false
set_option linter.unusedVariables false
theorem jk {α : Type} {l : List α} {d : α} {i : Nat} {a : α} {r : List α} (h : l.drop i = a :: r) : i < l.length ∧ l.getD i d = a ∧ l.drop (i + 1) = r := by
 have hl : i < l.length := by
  rcases Nat.lt_or_ge i l.length with h' | h'
  ·exact h'
  ·rw [List.drop_eq_nil_of_le h'] at h; cases h
 rw [List.drop_eq_getElem_cons hl] at h
 refine ⟨hl, ?_, (List.cons.inj h).2⟩
 rw [List.getD_eq_getElem?_getD, List.getElem?_eq_getElem hl]
 exact (List.cons.inj h).1
theorem list_nil {α : Type} {l : List α} {i : Nat} (h : l.drop i = []) : l.length ≤ i := List.drop_eq_nil_iff.1 h
theorem rd26 {l : List S40} {i : Nat} {a : S40} {r : List S40} (h : l.drop i = a :: r) : qk l i = a := (jk (d := z40) h).2.1
theorem rdL4 {l : List (List S40)} {i : Nat} {a : List S40} {r : List (List S40)} (h : l.drop i = a :: r) : zz l i = a := (jk (d := ([] : List S40)) h).2.1
def relFrom (pre : List S40) : List S40 → Int
 | [] => 0
 | a :: r => if okOid (L a.f0) = true then (if L a.f2 = [] ∨ okText a.f1 a.f2 = false then 13 else if 64 < a.f2.size then 2 else if (pre.any fun b => decide (L b.f0 = L a.f0)) = true then 10 else relFrom (pre ++ [a]) r) else 11
def relErr (l : List S40) : Int := if l.length = 0 then 14 else if 4 < l.length then 2 else relFrom [] l
def relsErr : List (List S40) → Int
 | [] => 0
 | l :: r => if relErr l = 0 then relsErr r else relErr l
def nameErr (n : List (List S40)) : Int := if 8 < n.length then 2 else relsErr n
def Fit (l : List S40) : Prop := ∀ a ∈ l, a.f0.size < 4294967281 ∧ a.f2.size < 4294967281
theorem dup_t (l : List S40) (b0 : ByteArray) (b1 : Int) (b2 : ByteArray) (x14 x15 : Int) (y : List S40) (hy : y.length < 1000) (r : Int) : ∀ (rest : List S40) (i : Nat), y.drop i = rest →
  (if (rest.any fun b => decide (L b.f0 = L b0)) = true then r = 10 else Ev (fun k => qy.l0 k l l x14 (wrap64 (x15 + 1))) r) →
  Ev (fun k => qy.l1 k l l x14 x15 y (y.length : Int) i b0 b1 b2) r
 | [], i, h, hr => by
  have hn := list_nil h
  rw [if_neg uf] at hr
  refine Ev.step (fun k => by rw [qy.l1]) ?_
  exact Ev.neg yg hr
 | a :: t, i, h, hr => by
  obtain ⟨hl, _, ht⟩ := jk (d := z40) h
  refine Ev.step (fun k => by rw [qy.l1]) ?_
  rw [rd26 h]
  refine Ev.pos yg (Ev.pos yg (Ev.pos yg ?_))
  by_cases hc : L a.f0 = L b0
  ·rw [if_pos (by simp [hc])] at hr
   rw [hr]
   exact Ev.pos (by rw [j7, j7]; exact hc) (Ev.now _)
  ·refine Ev.neg (by rw [j7, j7]; exact hc) ?_
   rw [w64 (n := (i : Int) + 1) yg yg]
   refine dup_t l b0 b1 b2 x14 x15 y hy r t (i + 1) ht ?_
   simpa [hc] using hr
theorem rel_t (l : List S40) (hl : l.length < 1000) (hf : Fit l) : ∀ (rest : List S40) (i : Nat), l.drop i = rest → i ≤ l.length → Ev (fun k => qy.l0 k l l (l.length : Int) i) (relFrom (l.take i) rest)
 | [], i, h, hi => by
  have hn := list_nil h
  refine Ev.step (fun k => by rw [qy.l0]) ?_
  exact Ev.neg yg (Ev.now _)
 | a :: t, i, h, hi => by
  obtain ⟨hli, _, ht⟩ := jk (d := z40) h
  have hfa := hf a (List.mem_of_mem_drop (i := i) cay)
  have jt : ∀ b0 b1 b2, Ev (fun k => qy.j1 k l i l (l.length : Int) i true b0 b1 b2) 13 := fun b0 b1 b2 => by
   refine Ev.step (fun k => by rw [qy.j1]) ?_
   exact Ev.pos rfl (Ev.now _)
  refine Ev.step (fun k => by rw [qy.l0]) ?_
  rw [rd26 h]
  refine Ev.pos yg (Ev.pos yg (Ev.pos yg ?_))
  refine Ev.bind (oid_Valid_f a.f0 hfa.1) ?_
  by_cases ho : okOid (L a.f0) = true
  case neg =>
   refine Ev.neg ho ((Ev.now _).to ?_)
   rw [relFrom, if_neg ho]
  refine Ev.pos ho ?_
  rw [relFrom, if_pos ho]
  by_cases he : L a.f2 = []
  ·refine Ev.pos (by rw [j7, he]) ((jt _ _ _).to ?_)
   rw [if_pos (Or.inl he)]
  refine Ev.neg (by rw [j7]; exact he) (Ev.bnd (text_Valid_f a.f1 a.f2 yg) ?_)
  cases hv : okText a.f1 a.f2 with
  | false =>
   refine (jt _ _ _).to ?_
   rw [if_pos (Or.inr rfl)]
  | true =>
   rw [if_neg (by simp [he])]
   refine Ev.step (fun k => by rw [qy.j1]) (Ev.neg (by decide) ?_)
   by_cases h64 : 64 < a.f2.size
   ·refine Ev.pos yg ((Ev.now _).to ?_)
    rw [if_pos h64]
   rw [if_neg h64]
   refine Ev.neg yg (Ev.pos yg (Ev.pos yg (Ev.bnd rfl ?_)))
   refine dup_t l a.f0 a.f1 a.f2 _ _ (l.take (i : Int).toNat) (by rw [List.length_take]; omega) _ _ 0 rfl ?_
   have e : l.take (i : Int).toNat = l.take i := rfl
   rw [e, List.drop_zero]
   by_cases hd : ((l.take i).any fun b => decide (L b.f0 = L a.f0)) = true
   ·rw [if_pos hd, if_pos hd]
   ·rw [if_neg hd, if_neg hd, w64 (n := (i : Int) + 1) yg yg]
    have ih := rel_t l hl hf t (i + 1) ht yg
    have e2 : l.take (i + 1) = l.take i ++ [a] := by
     rw [List.take_add_one]
     have := congrArg (fun l => l[0]?) h
     simp [List.getElem?_drop] at this
     rw [this]; rfl
    rw [e2] at ih
    exact ih
theorem checkRelative_f (l : List S40) (hf : Fit l) : Ev (fun k => qy.f k l) (relErr l) := by
 unfold qy.f relErr
 by_cases h0 : l.length = 0
 ·rw [if_pos h0]
  exact Ev.pos yg (Ev.now _)
 rw [if_neg h0]
 refine Ev.neg yg ?_
 by_cases h4 : 4 < l.length
 ·rw [if_pos h4]
  exact Ev.pos yg (Ev.now _)
 rw [if_neg h4]
 exact Ev.neg yg (rel_t l yg hf l 0 rfl yg)
theorem Check_l0 (n : List (List S40)) (hn : n.length < 1000) (hf : ∀ l ∈ n, Fit l) : ∀ (rest : List (List S40)) (i : Nat), n.drop i = rest → Ev (fun k => zy.l0 k n (n.length : Int) i) (relsErr rest)
 | [], i, h => by
  have hn := list_nil h
  refine Ev.step (fun k => by rw [zy.l0]) ?_
  exact Ev.neg yg (Ev.now _)
 | a :: t, i, h => by
  obtain ⟨hli, _, ht⟩ := jk (d := ([] : List S40)) h
  refine Ev.step (fun k => by rw [zy.l0]) ?_
  rw [rdL4 h]
  refine Ev.pos yg (Ev.pos yg (Ev.pos yg ?_))
  refine Ev.bind (checkRelative_f a (hf a (List.mem_of_mem_drop (i := i) cay))) ?_
  rw [relsErr]
  by_cases h0 : relErr a = 0
  ·rw [if_pos h0, w64 (n := (i : Int) + 1) yg yg]
   exact Ev.pos h0 (Check_l0 n hn hf t (i + 1) ht)
  ·rw [if_neg h0]
   exact Ev.neg h0 (Ev.now _)
theorem Check_f (n : List (List S40)) (hf : ∀ l ∈ n, Fit l) : Ev (fun k => zy.f k n) (nameErr n) := by
 unfold zy.f nameErr
 by_cases h8 : 8 < n.length
 ·rw [if_pos h8]
  exact Ev.pos yg (Ev.now _)
 ·rw [if_neg h8]
  exact Ev.neg yg (Check_l0 n yg hf n 0 rfl)
theorem dup_r (l : List S40) (hl : l.length < 1000) (b0 : ByteArray) (b1 : Int) (b2 : ByteArray) (x7 x8 : Int) (m : Nat) (hm : m ≤ l.length) (r : Int) : ∀ (d i : Nat), i + d = m →
  (if (((l.take m).drop i).any fun b => decide (L b.f0 = L b0)) = true then r = 10 else Ev (fun k => qn.l0 k l l x7 (wrap64 (x8 + 1))) r) →
  Ev (fun k => qn.l1 k l m i l x7 x8 b0 b1 b2) r
 | 0, i, h, hr => by
  have e : (l.take m).drop i = [] := List.drop_eq_nil_of_le (by rw [List.length_take]; omega)
  rw [e, if_neg uf] at hr
  refine Ev.step (fun k => by rw [qn.l1]) ?_
  exact Ev.neg yg hr
 | d + 1, i, h, hr => by
  have hil : i < l.length := by omega
  have hit : i < (l.take m).length := by rw [List.length_take]; omega
  have e : (l.take m).drop i = l[i] :: (l.take m).drop (i + 1) := by
   rw [List.drop_eq_getElem_cons hit, List.getElem_take]
  have hd : l.drop i = l[i] :: l.drop (i + 1) := List.drop_eq_getElem_cons hil
  rw [e] at hr
  refine Ev.step (fun k => by rw [qn.l1]) ?_
  rw [rd26 hd]
  refine Ev.pos yg (Ev.pos yg (Ev.pos yg ?_))
  generalize l[i] = a at hr ⊢
  by_cases hc : L a.f0 = L b0
  ·rw [if_pos (by simp [hc])] at hr
   rw [hr]
   exact Ev.pos (by rw [j7, j7]; exact hc) (Ev.now _)
  ·refine Ev.neg (by rw [j7, j7]; exact hc) ?_
   rw [w64 (n := (i : Int) + 1) yg yg]
   refine dup_r l hl b0 b1 b2 x7 x8 m hm r d (i + 1) yg ?_
   rw [List.any_cons, decide_eq_false hc, Bool.false_or] at hr
   exact hr
theorem rel_r (l : List S40) (hl : l.length < 1000) (hf : Fit l) : ∀ (rest : List S40) (i : Nat), l.drop i = rest → i ≤ l.length → Ev (fun k => qn.l0 k l l (l.length : Int) i) (relFrom (l.take i) rest)
 | [], i, h, hi => by
  have hn := list_nil h
  refine Ev.step (fun k => by rw [qn.l0]) ?_
  exact Ev.neg yg (Ev.now _)
 | a :: t, i, h, hi => by
  obtain ⟨hli, _, ht⟩ := jk (d := z40) h
  have hfa := hf a (List.mem_of_mem_drop (i := i) cay)
  have jt : ∀ b0 b1 b2, Ev (fun k => qn.j1 k l i l (l.length : Int) i true b0 b1 b2) 13 := fun b0 b1 b2 => by
   refine Ev.step (fun k => by rw [qn.j1]) ?_
   exact Ev.pos rfl (Ev.now _)
  refine Ev.step (fun k => by rw [qn.l0]) ?_
  rw [rd26 h]
  refine Ev.pos yg (Ev.pos yg (Ev.pos yg ?_))
  refine Ev.bind (ValidOID_f a.f0 hfa.1) ?_
  by_cases ho : okOid (L a.f0) = true
  case neg =>
   refine Ev.neg ho ((Ev.now _).to ?_)
   rw [relFrom, if_neg ho]
  refine Ev.pos ho ?_
  rw [relFrom, if_pos ho]
  by_cases he : L a.f2 = []
  ·refine Ev.pos (by rw [size_L, he]; rfl) ((jt _ _ _).to ?_)
   rw [if_pos (Or.inl he)]
  refine Ev.neg (by rw [size_L]; intro h; exact he (List.length_eq_zero_iff.1 yg)) (Ev.bind (ValidText_f a.f1 a.f2 yg) ?_)
  cases hv : okText a.f1 a.f2 with
  | false =>
   refine (jt _ _ _).to ?_
   rw [if_pos (Or.inr rfl)]
  | true =>
   rw [if_neg (by simp [he])]
   refine Ev.step (fun k => by rw [qn.j1]) (Ev.neg (by decide) ?_)
   by_cases h64 : 64 < a.f2.size
   ·refine Ev.pos yg ((Ev.now _).to ?_)
    rw [if_pos h64]
   rw [if_neg h64]
   refine Ev.neg yg ?_
   refine dup_r l hl a.f0 a.f1 a.f2 _ _ i hi _ i 0 yg ?_
   rw [List.drop_zero]
   by_cases hd : ((l.take i).any fun b => decide (L b.f0 = L a.f0)) = true
   ·rw [if_pos hd, if_pos hd]
   ·rw [if_neg hd, if_neg hd, w64 (n := (i : Int) + 1) yg yg]
    have ih := rel_r l hl hf t (i + 1) ht yg
    have e2 : l.take (i + 1) = l.take i ++ [a] := by
     rw [List.take_add_one]
     have := congrArg (fun l => l[0]?) h
     simp [List.getElem?_drop] at this
     rw [this]; rfl
    rw [e2] at ih
    exact ih
theorem CheckName_l0 (n : List (List S40)) (hn : n.length < 1000) (hf : ∀ l ∈ n, Fit l) : ∀ (rest : List (List S40)) (i : Nat), n.drop i = rest → Ev (fun k => zg.l0 k n (n.length : Int) i) (relsErr rest)
 | [], i, h => by
  have hn := list_nil h
  refine Ev.step (fun k => by rw [zg.l0]) ?_
  exact Ev.neg yg (Ev.now _)
 | a :: t, i, h => by
  obtain ⟨hli, _, ht⟩ := jk (d := ([] : List S40)) h
  refine Ev.step (fun k => by rw [zg.l0]) ?_
  rw [rdL4 h]
  refine Ev.pos yg (Ev.pos yg (Ev.pos yg ?_))
  rw [relsErr]
  by_cases h0 : a.length = 0
  ·refine Ev.pos yg ((Ev.now _).to ?_)
   unfold relErr
   rw [if_pos h0, if_neg (by decide)]
  refine Ev.neg yg ?_
  by_cases h4 : 4 < a.length
  ·refine Ev.pos yg ((Ev.now _).to ?_)
   unfold relErr
   rw [if_neg h0, if_pos h4, if_neg (by decide)]
  refine Ev.neg yg ?_
  have er : relErr a = relFrom [] a := by unfold relErr; rw [if_neg h0, if_neg h4]
  refine Ev.bind (show Ev (fun k => qn.f k a) (relFrom [] a) from rel_r a yg (hf a (List.mem_of_mem_drop (i := i) cay)) a 0 rfl yg) ?_
  rw [er]
  by_cases hz : relFrom [] a = 0
  ·rw [if_pos hz, w64 (n := (i : Int) + 1) yg yg]
   exact Ev.pos hz (CheckName_l0 n hn hf t (i + 1) ht)
  ·rw [if_neg hz]
   exact Ev.neg hz (Ev.now _)
theorem CheckName_f (n : List (List S40)) (hf : ∀ l ∈ n, Fit l) : Ev (fun k => zg.f k n) (nameErr n) := by
 unfold zg.f nameErr
 by_cases h8 : 8 < n.length
 ·rw [if_pos h8]
  exact Ev.pos yg (Ev.now _)
 ·rw [if_neg h8]
  exact Ev.neg yg (CheckName_l0 n yg hf n 0 rfl)
end Go.Proofs.YthdoohfdminfgaaGreatDoor.Pl
end
section
namespace Go.Proofs.YthdoohfdminfgaaGreatDoor.Pl
set_option linter.unusedVariables false
def leL (x y : List UInt8) : Bool := decide (x ≤ y)
theorem leL_total (x y : List UInt8) : (leL x y || leL y x) = true := by
 unfold leL
 rcases List.le_total x y with h | h <;> simp [h]
theorem leL_trans (x y z : List UInt8) (h : leL x y = true) (k : leL y z = true) : leL x z = true := by
 unfold leL at *
 exact decide_eq_true (List.le_trans (of_decide_eq_true h) (of_decide_eq_true k))
theorem leL_antisymm (x y : List UInt8) (h : leL x y = true) (k : leL y x = true) : x = y := List.le_antisymm (of_decide_eq_true h) (of_decide_eq_true k)
def insL : List (List UInt8) → List UInt8 → List (List UInt8)
 | [], x => [x]
 | y :: s, x => if leL y x then y :: insL s x else x :: y :: s
theorem insL_perm : ∀ (s : List (List UInt8)) (x : List UInt8), (insL s x).Perm (x :: s)
 | [], x => List.Perm.refl _
 | y :: s, x => by
  unfold insL
  split
  ·exact ((insL_perm s x).cons y).trans (List.Perm.swap x y s)
  ·exact List.Perm.refl _
theorem insL_sorted : ∀ (s : List (List UInt8)) (x : List UInt8), s.Pairwise (fun a b => leL a b = true) → (insL s x).Pairwise (fun a b => leL a b = true)
 | [], x, _ => List.pairwise_singleton _ _
 | y :: s, x, h => by
  obtain ⟨h1, h2⟩ := List.pairwise_cons.1 h
  unfold insL
  split
  ·rename_i hc
   refine List.pairwise_cons.2 ⟨fun z hz => ?_, insL_sorted s x h2⟩
   rcases List.mem_cons.1 ((insL_perm s x).mem_iff.1 hz) with rfl | hz
   ·exact hc
   ·exact h1 z hz
  ·rename_i hc
   have hxy : leL x y = true := by
    have := leL_total x y
    simpa [hc] using this
   refine List.pairwise_cons.2 ⟨fun z hz => ?_, h⟩
   rcases List.mem_cons.1 hz with rfl | hz
   ·exact hxy
   ·exact leL_trans x y z hxy (h1 z hz)
theorem sorted_unique : ∀ (a b : List (List UInt8)), a.Perm b → a.Pairwise (fun x y => leL x y = true) → b.Pairwise (fun x y => leL x y = true) → a = b
 | [], b, hp, _, _ => (List.Perm.nil_eq hp)
 | x :: a, [], hp, _, _ => absurd hp.length_eq uf
 | x :: a, y :: b, hp, ha, hb => by
  obtain ⟨a1, a2⟩ := List.pairwise_cons.1 ha
  obtain ⟨b1, b2⟩ := List.pairwise_cons.1 hb
  have e : x = y := by
   rcases List.mem_cons.1 (hp.mem_iff.1 List.mem_cons_self) with h | h
   ·exact h
   ·rcases List.mem_cons.1 (hp.mem_iff.2 List.mem_cons_self) with k | k
    ·exact k.symm
    ·exact leL_antisymm x y (a1 y k) (b1 x h)
  subst e
  rw [sorted_unique a b (List.Perm.cons_inv hp) a2 b2]
def insAll (l : List (List UInt8)) : List (List UInt8) := l.foldl insL []
theorem insAll_fold : ∀ (l s : List (List UInt8)), s.Pairwise (fun a b => leL a b = true) → (l.foldl insL s).Pairwise (fun a b => leL a b = true) ∧ (l.foldl insL s).Perm (l ++ s)
 | [], s, h => ⟨h, List.Perm.refl _⟩
 | x :: l, s, h => by
  obtain ⟨h1, h2⟩ := insAll_fold l (insL s x) (insL_sorted s x h)
  refine ⟨h1, h2.trans ?_⟩
  exact ((insL_perm s x).append_left l).trans List.perm_middle
theorem insAll_sort (l : List (List UInt8)) : insAll l = l.mergeSort fun x y => decide (x ≤ y) := by
 obtain ⟨h1, h2⟩ := insAll_fold l [] List.Pairwise.nil
 refine sorted_unique _ _ (h2.trans ?_) h1 ?_
 ·rw [List.append_nil]
  exact (List.mergeSort_perm l _).symm
 ·exact List.pairwise_mergeSort (le := leL) (fun a b c => leL_trans a b c) (fun a b => leL_total a b) l
end Go.Proofs.YthdoohfdminfgaaGreatDoor.Pl
end
section
namespace Go.Proofs.YthdoohfdminfgaaGreatDoor.Pl
open Go.RowKit Go.Proofs.YthdoohfdminfgaaGreatDoorW.PrintWords Go.Proofs.YthdoohfdminfgaaGreatDoor.C
set_option linter.unusedSimpArgs false
set_option linter.unusedVariables false
def catB (l : List ByteArray) : ByteArray := S (l.map L).flatten
theorem L_cat (l : List ByteArray) : L (catB l) = (l.map L).flatten := rfl
theorem catB_nil : catB [] = (⟨#[]⟩ : ByteArray) := rfl
theorem catB_cons (x : ByteArray) (l : List ByteArray) : catB (x :: l) = x ++ catB l := L_inj (by rw [L_append, L_cat, L_cat]; simp)
theorem jw (x : ByteArray) : catB [x] = x := L_inj (by rw [L_cat]; simp)
theorem catB_two (x y : ByteArray) : catB [x, y] = x ++ y := L_inj (by rw [L_cat, L_append]; simp)
theorem app_nil (x : ByteArray) : x ++ (⟨#[]⟩ : ByteArray) = x := L_inj (by rw [L_append]; simp [L])
theorem nil_app (x : ByteArray) : (⟨#[]⟩ : ByteArray) ++ x = x := L_inj (by rw [L_append]; simp [L])
theorem app_assoc (x y z : ByteArray) : x ++ y ++ z = x ++ (y ++ z) := L_inj (by simp only [L_append, List.append_assoc])
theorem catB_append (a b : List ByteArray) : catB (a ++ b) = catB a ++ catB b := L_inj (by rw [L_append, L_cat, L_cat, L_cat]; simp)
theorem catB_fold : ∀ (l : List ByteArray) (b : ByteArray), l.foldl (· ++ ·) b = b ++ catB l
 | [], b => by rw [List.foldl_nil, catB_nil, app_nil]
 | x :: l, b => by rw [List.foldl_cons, catB_fold l, catB_cons, app_assoc]
theorem catB_size : ∀ (l : List ByteArray), (catB l).size = (l.map ByteArray.size).sum
 | [] => rfl
 | x :: l => by rw [catB_cons, ByteArray.size_append, catB_size l, List.map_cons, List.sum_cons]
theorem sum_perm {a b : List Nat} (h : a.Perm b) : a.sum = b.sum := h.sum_nat
theorem sum_bound (B : Nat) : ∀ (l : List ByteArray), (∀ x ∈ l, x.size ≤ B) → (l.map ByteArray.size).sum ≤ B * l.length
 | [], _ => by simp
 | x :: l, h => by
  have h1 := h x (List.mem_cons_self ..)
  have h2 := sum_bound B l (fun y hy => h y (List.mem_cons_of_mem _ hy))
  rw [List.map_cons, List.sum_cons, List.length_cons, Nat.mul_succ]
  omega
theorem catB_le {B : Nat} {l : List ByteArray} (h : ∀ x ∈ l, x.size ≤ B) : (catB l).size ≤ B * l.length := by rw [catB_size]; exact sum_bound B l h
theorem inter_nil : ∀ (l : List (List UInt8)), Lib.join l [] = l.flatten
 | [] => rfl
 | x :: l => by rw [Lib.join_cons]; simp [Lib.joinTail]
theorem join_f (l : List ByteArray) (hl : l.length ≤ 1000000) (hs : (catB l).size ≤ 1000000) : strings_Join.f l (⟨#[]⟩ : ByteArray) = some (catB l) := by
 have e : Lib.join (l.map (·.data.toList)) [] = (l.map L).flatten := inter_nil _
 have hz : ((l.map L).flatten).length ≤ 1000000 := by rw [← L_cat, ← size_L]; exact hs
 unfold strings_Join.f
 rw [show (⟨#[]⟩ : ByteArray).data.toList = [] from rfl, e, if_pos ⟨by omega, by omega⟩]
 rfl
def headB (t : Int) (n : Nat) : List Int := if n < 128 then [t, (n : Int)] else if n < 256 then [t, 129, (n : Int)] else if n < 65536 then [t, 130, (n : Int) / 256, (n : Int) % 256] else [t, 131, (n : Int) / 65536, (n : Int) / 256 % 256, (n : Int) % 256]
def wrapB (t : Int) (c : ByteArray) : ByteArray := strOfNums (headB t c.size) ++ c
theorem size_nums (l : List Int) : (strOfNums l).size = l.length := by rw [size_L, L_nums, List.length_map]
theorem headB_len (t : Int) (n : Nat) : (headB t n).length ≤ 5 := by unfold headB; split; · simp
                                                                     split; · simp
                                                                     split <;> simp
theorem wrapB_size (t : Int) (c : ByteArray) : (wrapB t c).size ≤ c.size + 5 := by unfold wrapB; rw [ByteArray.size_append, size_nums]; have := headB_len t c.size; omega
theorem and31_all : (List.range 256).all (fun t => decide (((Go.bits .and .i64 (t : Int) 31) == 31) = decide (t % 32 = 31))) = true := by kernel_rfl
theorem and31 (t : Int) (h : 0 ≤ t) (h1 : t ≤ 255) (h2 : t % 32 ≠ 31) : ((Go.bits .and .i64 t 31) == 31) = false := by
 obtain ⟨m, rfl⟩ := Int.eq_ofNat_of_zero_le h
 have := List.all_eq_true.1 and31_all m (List.mem_range.2 yg)
 rw [decide_eq_true_iff] at this
 rw [this]
 exact decide_eq_false yg
theorem rd_str {l : List ByteArray} {i : Nat} {a : ByteArray} {r : List ByteArray} (h : l.drop i = a :: r) : rdOf ByteArray.empty l (i : Int) = a := by
 have := (jk (d := ByteArray.empty) h).2.1
 simpa [rdOf] using this
theorem wrap_t0 (t : Int) (l : List ByteArray) (ht : 0 ≤ t ∧ t ≤ 255) (hl : l.length ≤ 1000) (hs : (catB l).size ≤ 131072) : ∀ (rest : List ByteArray) (i n : Nat), l.drop i = rest → n + (catB rest).size = (catB l).size →
  Ev (fun k => zw.l0 k t l (n : Int) l (l.length : Int) i) (wrapB t (catB l), 0)
 | [], i, n, h, hn => by
  have hi := list_nil h
  rw [catB_nil] at hn
  have hz : n = (catB l).size := by rw [show (⟨#[]⟩ : ByteArray).size = 0 from rfl] at hn; omega
  subst hz
  refine Ev.step (fun k => by rw [zw.l0]) (Ev.neg yg ?_)
  refine Ev.bnd rfl ?_
  rw [show t % 256 = t from by omega]
  unfold wrapB headB
  by_cases h1 : (catB l).size < 128
  ·refine Ev.pos yg (Ev.pos uf (Ev.bnd rfl (Ev.bnd (join_f l yg yg) ?_)))
   rw [if_pos h1, show ((catB l).size : Int) % 256 = ((catB l).size : Int) from by omega]
   exact Ev.pos ca7 (Ev.now _)
  refine Ev.neg yg ?_
  rw [if_neg h1]
  by_cases h2 : (catB l).size < 256
  ·refine Ev.pos yg (Ev.bnd rfl (Ev.pos uf (Ev.bnd rfl (Ev.bnd (join_f l yg yg) ?_))))
   rw [if_pos h2, show ((catB l).size : Int) % 256 = ((catB l).size : Int) from by omega]
   exact Ev.pos ca7 (Ev.now _)
  refine Ev.neg yg ?_
  rw [if_neg h2]
  by_cases h3 : (catB l).size < 65536
  ·refine Ev.pos yg (Ev.bnd rfl (Ev.pos uf (Ev.bnd rfl (Ev.bnd (join_f l yg yg) ?_))))
   rw [if_pos h3, show ((catB l).size : Int) / 256 % 256 = ((catB l).size : Int) / 256 from by omega]
   exact Ev.pos ca7 (Ev.now _)
  refine Ev.neg yg (Ev.bnd rfl (Ev.pos uf (Ev.bnd rfl (Ev.bnd (join_f l yg yg) ?_))))
  rw [if_neg h3, show ((catB l).size : Int) / 65536 % 256 = ((catB l).size : Int) / 65536 from by omega]
  exact Ev.pos ca7 (Ev.now _)
 | a :: r, i, n, h, hn => by
  obtain ⟨hi, _, hr⟩ := jk (d := ByteArray.empty) h
  rw [catB_cons, ByteArray.size_append] at hn
  refine Ev.step (fun k => by rw [zw.l0]) ?_
  rw [rd_str h]
  refine Ev.pos yg (Ev.pos yg (Ev.pos yg (Ev.neg ?_ ?_)))
  ·rw [w64 yg yg]; omega
  ·rw [w64 (n := (i : Int) + 1) yg yg, w64 (n := (n : Int) + (a.size : Int)) yg yg]
   have := wrap_t0 t l ht hl hs r (i + 1) (n + a.size) hr yg
   simpa using this
theorem Wrap_t (t : Int) (l : List ByteArray) (ht : 0 ≤ t) (ht1 : t ≤ 255) (ht2 : t % 32 ≠ 31) (hl : l.length ≤ 1000) (hs : (catB l).size ≤ 131072) : Ev (fun k => zw.f k t l) (wrapB t (catB l), 0) := by
 unfold zw.f
 rw [and31 t ht ht1 ht2]
 refine Ev.neg yg (Ev.neg yg ?_)
 refine Ev.step (fun k => by rw [zw.j0]) (Ev.neg uf ?_)
 have := wrap_t0 t l ⟨ht, ht1⟩ hl hs l 0 0 rfl yg
 simpa using this
theorem wrap_r0 (t : Int) (l : List ByteArray) (ht : 0 ≤ t ∧ t ≤ 255) (hl : l.length ≤ 1000) (hs : (catB l).size ≤ 131072) : ∀ (rest : List ByteArray) (i : Nat) (acc : ByteArray), l.drop i = rest → acc ++ catB rest = catB l →
  Ev (fun k => zh.l0 k t acc l (l.length : Int) i) (wrapB t (catB l), 0)
 | [], i, acc, h, hn => by
  have hi := list_nil h
  rw [catB_nil, app_nil] at hn
  subst hn
  refine Ev.step (fun k => by rw [zh.l0]) (Ev.neg yg (Ev.neg yg ?_))
  refine Ev.bnd rfl ?_
  rw [show t % 256 = t from by omega]
  unfold wrapB headB
  by_cases h1 : (catB l).size < 128
  ·refine Ev.neg yg (Ev.neg yg (Ev.neg yg ?_))
   rw [if_pos h1, show ((catB l).size : Int) % 256 = ((catB l).size : Int) from by omega]
   exact Ev.pos ca7 (Ev.now _)
  rw [if_neg h1]
  by_cases h2 : (catB l).size < 256
  ·refine Ev.neg yg (Ev.neg yg (Ev.pos yg (Ev.bnd rfl ?_)))
   rw [if_pos h2, show ((catB l).size : Int) % 256 = ((catB l).size : Int) from by omega]
   exact Ev.pos ca7 (Ev.now _)
  rw [if_neg h2]
  by_cases h3 : (catB l).size < 65536
  ·refine Ev.neg yg (Ev.pos yg (Ev.bnd rfl ?_))
   rw [if_pos h3, show ((catB l).size : Int) / 256 % 256 = ((catB l).size : Int) / 256 from by omega]
   exact Ev.pos ca7 (Ev.now _)
  refine Ev.pos yg (Ev.bnd rfl ?_)
  rw [if_neg h3, show ((catB l).size : Int) / 65536 % 256 = ((catB l).size : Int) / 65536 from by omega]
  exact Ev.pos ca7 (Ev.now _)
 | a :: r, i, acc, h, hn => by
  obtain ⟨hi, _, hr⟩ := jk (d := ByteArray.empty) h
  rw [catB_cons, ← app_assoc] at hn
  have hz := congrArg ByteArray.size hn
  rw [ByteArray.size_append, ByteArray.size_append] at hz
  refine Ev.step (fun k => by rw [zh.l0]) ?_
  rw [rd_str h]
  refine Ev.pos yg (Ev.pos yg (Ev.pos yg (Ev.pos yg ?_)))
  rw [w64 (n := (i : Int) + 1) yg yg]
  exact wrap_r0 t l ht hl hs r (i + 1) (acc ++ a) hr hn
theorem Wrap_r (t : Int) (l : List ByteArray) (ht : 0 ≤ t) (ht1 : t ≤ 255) (ht2 : t % 32 ≠ 31) (hl : l.length ≤ 1000) (hs : (catB l).size ≤ 131072) : Ev (fun k => zh.f k t l) (wrapB t (catB l), 0) := by
 unfold zh.f
 rw [show (Int.tmod t 32 == 31) = false from by rw [Int.tmod_eq_emod_of_nonneg ht]; simpa using ht2]
 refine Ev.neg yg (Ev.neg yg ?_)
 refine Ev.step (fun k => by rw [zh.j0]) (Ev.neg uf ?_)
 have := wrap_r0 t l ⟨ht, ht1⟩ hl hs l 0 (⟨#[]⟩ : ByteArray) rfl (nil_app _)
 simpa using this
theorem Wrap7_r (t : Int) (l : List ByteArray) (ht : 0 ≤ t) (ht1 : t ≤ 255) (ht2 : t % 32 ≠ 31) (hl : l.length ≤ 1000) (hs : (catB l).size ≤ 131072) : Ev (fun k => zj.f k t l) (wrapB t (catB l)) := by
 unfold zj.f
 exact Ev.bind (Wrap_r t l ht ht1 ht2 hl hs) (Ev.now _)
def nums (s : ByteArray) : List Int := (pieces 46 (L s)).map (val 0)
def oidOf : List Int → List Int
 | x :: y :: r => arcsD x y r
 | _ => []
def oidD (s : ByteArray) : List Int := oidOf (nums s)
theorem okOid_nums {s : ByteArray} (h : okOid (L s) = true) : ∃ x y r, nums s = x :: y :: r ∧ (∀ z ∈ nums s, 0 ≤ z ∧ z ≤ 2147483647) ∧ r.length ≤ 10 ∧ x ≤ 2 := by
 unfold okOid at h
 simp only [Bool.and_eq_true, decide_eq_true_iff, List.all_eq_true] at h
 obtain ⟨⟨⟨h1, h2⟩, h3⟩, h4⟩ := h
 have hl : (nums s).length = (pieces 46 (L s)).length := by unfold nums; simp
 have hb : ∀ z ∈ nums s, 0 ≤ z ∧ z ≤ 2147483647 := fun z hz => by
  unfold nums at hz
  obtain ⟨p, hp, rfl⟩ := List.mem_map.1 hz
  have hk := (ju p).1 (h3 p hp)
  exact ⟨val_bounds p 0 hk.2.2.2.1 (Int.le_refl 0), hk.2.2.2.2⟩
 change rootOk (nums s) = true at h4
 match hn : nums s, hl with
 | [], hl => simp at hl; omega
 | [x], hl => simp at hl; omega
 | x :: y :: r, hl =>
  rw [hn] at h4 hb
  refine ⟨x, y, r, rfl, hb, by simp at hl; omega, ?_⟩
  unfold rootOk at h4
  simp at h4
  omega
theorem oid_t (s : ByteArray) (h : okOid (L s) = true) (hs : s.size < 4294967281) : Ev (fun k => kj.f k s) (strOfNums (oidD s), 0) := by
 obtain ⟨x, y, r, e, hb, hr, hx⟩ := okOid_nums h
 have h1 := arcs_f s hs
 rw [if_pos h] at h1
 change Ev _ (nums s) at h1
 unfold kj.f
 refine Ev.bind h1 ?_
 unfold oidD
 rw [e] at hb ⊢
 show Ev (fun _ => if (0 ≤ x ∧ x ≤ 2147483647) ∧ (0 ≤ y ∧ y ≤ 2147483647) ∧ (∀ z ∈ r, 0 ≤ z ∧ z ≤ 2147483647) ∧ r.length ≤ 100 ∧ x ≤ 100 then some (strOfNums (arcsD x y r), (0 : Int)) else none) (strOfNums (arcsD x y r), 0)
 refine Ev.pos ?_ (Ev.now _)
 exact ⟨hb x uf, hb y uf, fun z hz => hb z (by simp [hz]), by omega, by omega⟩
theorem arcsD_len (x y : Int) (r : List Int) (h : ∀ z ∈ x :: y :: r, 0 ≤ z ∧ z ≤ 2147483647) (hr : r.length ≤ 10) (hx : x ≤ 2) : (arcsD x y r).length ≤ 72 := by
 unfold arcsD
 have h1 := fold_len r (putD (40 * x + y).toNat) (fun z hz => h z (by simp [hz]))
 have h2 := putD_len (40 * x + y).toNat (by have := h x uf; have := h y uf; omega)
 omega
theorem oidD_len {s : ByteArray} (h : okOid (L s) = true) : (oidD s).length ≤ 72 := by
 obtain ⟨x, y, r, e, hb, hr, hx⟩ := okOid_nums h
 unfold oidD
 rw [e] at hb ⊢
 exact arcsD_len x y r hb hr hx
def lowD (m : Nat) : List Int := if h : m = 0 then [] else lowD (m / 128) ++ [((m % 128 : Nat) : Int)]
decreasing_by exact Nat.div_lt_self (Nat.pos_of_ne_zero h) (by decide)
theorem lowD_zero : lowD 0 = [] := by unfold lowD; rfl
theorem lowD_step {m : Nat} (h : m ≠ 0) : lowD m = lowD (m / 128) ++ [((m % 128 : Nat) : Int)] := by rw [lowD, dif_neg h]
theorem lowD_hi (m : Nat) : (lowD m).map (· + 128) = hiD m ∧ ∀ z ∈ lowD m, 0 ≤ z ∧ z < 128 := by
 induction m using Nat.strongRecOn with
 | ind m ih =>
  by_cases h : m = 0
  ·subst h; rw [lowD_zero, hiD_zero]; exact ⟨rfl, fun z hz => by cases hz⟩
  ·obtain ⟨h1, h2⟩ := ih (m / 128) (Nat.div_lt_self (Nat.pos_of_ne_zero h) (by decide))
   rw [lowD_step h, hiD_step h, List.map_append, h1]
   refine ⟨by simp, fun z hz => ?_⟩
   rcases List.mem_append.1 hz with hz | hz
   ·exact h2 z hz
   ·rw [List.mem_singleton.1 hz]; omega
theorem lowD_len {m : Nat} (h : m < 34359738368) : (lowD m).length ≤ 5 := by
 have := congrArg List.length (lowD_hi m).1
 rw [List.length_map] at this
 rw [this]
 exact hiD_len 5 m yg
theorem rd_mid (pre : List Int) (z : Int) (rest : List Int) : rd (pre ++ z :: rest) (pre.length : Int) = z := by
 simp [rd]
theorem set_mid (pre : List Int) (z u : Int) (rest : List Int) : (pre ++ z :: rest).set ((pre.length : Int)).toNat u = pre ++ u :: rest := by
 simp
theorem enc_l2 (x6 x30 : List Int) (x31 x32 : Int) (r : ByteArray × Int) (last : Int) : ∀ (rest pre : List Int), (∀ z ∈ rest, 0 ≤ z ∧ z < 128) → pre.length + rest.length ≤ 1000 → x6.length ≤ 1000000 →
  Ev (fun k => qq.l0 k (x6 ++ (pre ++ rest.map (· + 128) ++ [last])) x30 x31 (wrap64 (x32 + 1))) r →
  Ev (fun k => qq.l2 k x6 (pre ++ rest ++ [last]) (pre.length : Int) x30 x31 x32) r
 | [], pre, _, hl, h6, h => by
  refine Ev.step (fun k => by rw [qq.l2]) (Ev.neg ?_ (Ev.pos ?_ ?_))
  ·simp at hl
   rw [w64 yg yg]; simp
  ·simp at hl ⊢; omega
  ·simpa using h
 | z :: rest, pre, hz, hl, h6, h => by
  have hz0 := hz z (List.mem_cons_self ..)
  have hl' : pre.length + (rest.length + 1) ≤ 1000 := by simpa using hl
  refine Ev.step (fun k => by rw [qq.l2]) (Ev.pos ?_ (Ev.pos yg (Ev.pos ?_ ?_)))
  ·rw [w64 yg yg]; simp; omega
  ·simp; omega
  ·rw [show pre ++ z :: rest ++ [last] = pre ++ z :: (rest ++ [last]) from by simp, rd_mid, set_mid, show (z + 128) % 256 = z + 128 from by omega, w64 (n := (pre.length : Int) + 1) yg yg]
   have := enc_l2 x6 x30 x31 x32 r last rest (pre ++ [z + 128]) (fun u hu => hz u (List.mem_cons_of_mem _ hu)) ca5 h6 (by simpa using h)
   simpa using this
theorem enc_l1 (x6 x30 : List Int) (x31 x32 : Int) (r : ByteArray × Int) (h6 : x6.length ≤ 1000000) : ∀ (m : Nat) (d : List Int), m < 34359738368 → d.length + (lowD m).length ≤ 999 →
  Ev (fun k => qq.l2 k x6 (lowD (m / 128) ++ ((m % 128 : Nat) : Int) :: d) 0 x30 x31 x32) r →
  Ev (fun k => qq.l1 k x6 (m : Int) d x30 x31 x32) r := by
 intro m
 induction m using Nat.strongRecOn with
 | ind m ih =>
  intro d hm hd h
  have e1 : Int.tmod (m : Int) 128 % 256 = ((m % 128 : Nat) : Int) := by rw [Int.tmod_eq_emod_of_nonneg yg]; omega
  have e2 : wrap64 (Int.tdiv (m : Int) 128) = ((m / 128 : Nat) : Int) := by rw [Int.tdiv_eq_ediv_of_nonneg yg, w64 yg yg]; omega
  refine Ev.step (fun k => by rw [qq.l1]) (Ev.bnd rfl ?_)
  rw [e1, e2]
  refine Ev.pos ca5 (Ev.bnd rfl ?_)
  by_cases hz : m / 128 = 0
  ·refine Ev.pos yg ?_
   rw [hz, lowD_zero] at h
   exact h
  ·refine Ev.neg yg ?_
   refine ih (m / 128) yg (((m % 128 : Nat) : Int) :: d) yg ?_ ?_
   ·rw [lowD_step yg, List.length_append] at hd
    simp at hd ⊢
    omega
   ·rw [lowD_step hz] at h
    simpa using h
theorem enc_l0 (l : List Int) (hl : l.length ≤ 20) (hb : ∀ z ∈ l, 0 ≤ z ∧ z < 34359738368) : ∀ (rest : List Int) (i : Nat) (out : List Int), l.drop i = rest → out.length + 6 * rest.length ≤ 200 →
  Ev (fun k => qq.l0 k out l (l.length : Int) i) (strOfNums (rest.foldl (fun b z => b ++ putD z.toNat) out), 0)
 | [], i, out, h, ho => by
  have hi := list_nil h
  refine Ev.step (fun k => by rw [qq.l0]) ?_
  exact Ev.neg yg (Ev.now _)
 | z :: rest, i, out, h, ho => by
  obtain ⟨hi, hz, hr⟩ := jk (d := (0 : Int)) h
  have hzm : z ∈ l := List.mem_of_mem_drop (i := i) cay
  obtain ⟨hz0, hz1⟩ := hb z hzm
  obtain ⟨m, rfl⟩ := Int.eq_ofNat_of_zero_le hz0
  have ho' : out.length + 6 * (rest.length + 1) ≤ 200 := by simpa using ho
  refine Ev.step (fun k => by rw [qq.l0]) ?_
  rw [show rd l (i : Int) = ((m : Nat) : Int) from by simpa [rd] using hz]
  refine Ev.pos yg (Ev.pos yg (Ev.pos yg ?_))
  have hlow := lowD_len (m := m) yg
  have hlow2 := lowD_len (m := m / 128) yg
  refine enc_l1 out l (l.length : Int) (i : Int) _ yg m [] yg ca5 ?_
  have key := enc_l2 out l (l.length : Int) (i : Int) (strOfNums ((((m : Nat) : Int) :: rest).foldl (fun b z => b ++ putD z.toNat) out), 0) ((m % 128 : Nat) : Int) (lowD (m / 128)) [] (lowD_hi _).2 ca5 yg ?_
  ·simpa using key
  ·rw [List.nil_append, (lowD_hi _).1, w64 (n := (i : Int) + 1) yg yg, List.foldl_cons]
   have hp := putD_len m yg
   have := enc_l0 l hl hb rest (i + 1) (out ++ putD m) hr (by rw [List.length_append]; omega)
   simpa [putD] using this
theorem oid_r (s : ByteArray) (h : okOid (L s) = true) (hs : s.size < 4294967281) : Ev (fun k => qq.f k s) (strOfNums (oidD s), 0) := by
 obtain ⟨x, y, r, e, hb, hr, hx⟩ := okOid_nums h
 have h1 : Ev (fun k => ql.f k s) (nums s, true) := by
  refine Ev.to (show Ev (fun k => ql.f k s) _ from arcs_l0 s hs (L s) 0 0 [] [] rfl yg yg uf uf uf rfl) ?_
  rw [List.nil_append, pieces_eta]
  unfold refFin refEnd
  unfold okOid at h
  simp only [Bool.and_eq_true, decide_eq_true_iff] at h
  obtain ⟨⟨⟨h1, h2⟩, h3⟩, h4⟩ := h
  rw [if_pos ⟨h3, by simpa using h2⟩, List.nil_append, if_pos ⟨by simpa using h1, h4⟩]
  rfl
 unfold qq.f
 refine Ev.bind h1 ?_
 unfold oidD
 rw [e] at hb ⊢
 have hbx := hb x uf
 have hby := hb y uf
 refine Ev.pos rfl (Ev.pos ca5 (Ev.pos ca5 (Ev.bnd rfl (Ev.pos ca5 (Ev.bnd rfl ?_)))))
 refine Ev.pos ca5 (Ev.bnd rfl ?_)
 rw [show rd (x :: y :: r) 0 = x from rfl, show rd (x :: y :: r) 1 = y from rfl, w64 (n := 40 * x) yg yg, w64 (n := 40 * x + y) yg yg, show (x :: y :: r).drop 2 = r from rfl]
 have := enc_l0 ((40 * x + y) :: r) ca5 (fun z hz => by
  rcases List.mem_cons.1 hz with rfl | hz
  ·omega
  ·have := hb z (by simp [hz]); omega) ((40 * x + y) :: r) 0 [] rfl ca5
 simpa [oidOf, arcsD] using this
theorem leB_leL (y x : ByteArray) : leB y x = leL (L y) (L x) := by
 unfold leB leL
 rw [Go.Proofs.bytesLess_eq, j7, j7, Bool.eq_iff_iff]
 simp only [Bool.or_eq_true, decide_eq_true_iff, beq_iff_eq]
 constructor
 ·rintro (h | h)
  ·exact List.le_of_lt h
  ·rw [h]; exact List.le_refl _
 ·intro h
  rcases List.le_iff_lt_or_eq.1 h with h | h
  ·exact .inl h
  ·exact .inr h
theorem insB_insL : ∀ (s : List ByteArray) (x : ByteArray), (insB s x).map L = insL (s.map L) (L x)
 | [], x => rfl
 | y :: s, x => by
  have ih := insB_insL s x
  unfold insB kOf at ih ⊢
  rw [List.map_cons, insL, List.takeWhile_cons, leB_leL]
  by_cases h : leL (L y) (L x) = true
  ·rw [if_pos h, if_pos h, ← ih]
   simp
  ·rw [if_neg h, if_neg h]
   simp
theorem insAllB_L (l : List ByteArray) : (insAllB l).map L = insAll (l.map L) := by
 have key : ∀ (l s : List ByteArray), (l.foldl insB s).map L = (l.map L).foldl insL (s.map L) := by
  intro l
  induction l with
  | nil => intro s; rfl
  | cons x l ih => intro s; rw [List.foldl_cons, ih, insB_insL, List.map_cons, List.foldl_cons]
 exact key l []
theorem sortS_L (l : List ByteArray) : (sortS l).map L = (l.map L).mergeSort fun x y => decide (x ≤ y) := by
 unfold sortS
 rw [List.map_map]
 have : (L ∘ fun b : List UInt8 => (⟨b.toArray⟩ : ByteArray)) = id := rfl
 rw [this, List.map_id]
 rfl
theorem insAllB_sort (l : List ByteArray) : insAllB l = sortS l := by
 have h : (insAllB l).map L = (sortS l).map L := by rw [insAllB_L, sortS_L, insAll_sort]
 have h2 := congrArg (List.map S) h
 rw [List.map_map, List.map_map, show (S ∘ L) = id from funext S_L, List.map_id, List.map_id] at h2
 exact h2
theorem sortS_perm (l : List ByteArray) : (sortS l).Perm l := by
 have h : ((sortS l).map L).Perm (l.map L) := by rw [sortS_L]; exact List.mergeSort_perm _ _
 have h2 := h.map S
 rw [List.map_map, List.map_map, show (S ∘ L) = id from funext S_L, List.map_id, List.map_id] at h2
 exact h2
theorem cat_sort_size (l : List ByteArray) : (catB (sortS l)).size = (catB l).size := by
 rw [catB_size, catB_size]
 exact sum_perm ((sortS_perm l).map _)
theorem order_t (l : List ByteArray) (hl : l.length ≤ 1000) (hs : (catB l).size ≤ 1000000) : tlv_Order.f l = some (catB (sortS l)) := by
 unfold tlv_Order.f
 rw [if_pos yg]
 exact join_f _ (by rw [sortS_length]; omega) (by rw [cat_sort_size]; exact hs)
theorem order_r (l : List ByteArray) (hl : l.length ≤ 1000) (hs : (catB l).size ≤ 1000000) : xf.f l = some (catB (sortS l)) := by
 unfold xf.f
 rw [insAllB_sort, ← catB_size, cat_sort_size, if_pos ⟨by omega, by omega⟩, catB_fold, nil_app]
end Go.Proofs.YthdoohfdminfgaaGreatDoor.Pl
end
section
namespace Go.Proofs.YthdoohfdminfgaaGreatDoor.Pl
open Go.RowKit Go.Proofs.YthdoohfdminfgaaGreatDoorW.PrintWords Go.Proofs.YthdoohfdminfgaaGreatDoor.C
set_option linter.unusedSimpArgs false
set_option linter.unusedVariables false
structure AttrOk (a : S40) : Prop where
 oid : okOid (L a.f0) = true
 fit : a.f0.size < 4294967281
 kind : a.f1 = 12 ∨ a.f1 = 19 ∨ a.f1 = 22
 len : a.f2.size ≤ 64
def attrS (a : S40) : ByteArray := wrapB 48 (wrapB 6 (strOfNums (oidD a.f0)) ++ wrapB a.f1 a.f2)
theorem oid_size {a : S40} (h : AttrOk a) : (strOfNums (oidD a.f0)).size ≤ 72 := by rw [size_nums]; exact oidD_len h.oid
theorem parts_size {a : S40} (h : AttrOk a) : (wrapB 6 (strOfNums (oidD a.f0))).size ≤ 77 ∧ (wrapB a.f1 a.f2).size ≤ 69 := by
 have h1 := wrapB_size 6 (strOfNums (oidD a.f0))
 have h2 := wrapB_size a.f1 a.f2
 have h3 := oid_size h
 have h4 := h.len
 omega
theorem attrS_size {a : S40} (h : AttrOk a) : (attrS a).size ≤ 151 := by
 have h1 := parts_size h
 have h2 := wrapB_size 48 (wrapB 6 (strOfNums (oidD a.f0)) ++ wrapB a.f1 a.f2)
 rw [ByteArray.size_append] at h2
 unfold attrS
 omega
theorem kind_ok {a : S40} (h : AttrOk a) : 0 ≤ a.f1 ∧ a.f1 ≤ 255 ∧ a.f1 % 32 ≠ 31 := by
 rcases h.kind with h | h | h <;> rw [h] <;> decide
theorem attr_t {a : S40} (h : AttrOk a) : Ev (fun k => xc.f k a.f0 a.f1 a.f2) (attrS a, 0) := by
 obtain ⟨k1, k2, k3⟩ := kind_ok h
 obtain ⟨p1, p2⟩ := parts_size h
 have h72 := oid_size h
 have h64 := h.len
 unfold xc.f
 refine Ev.bind (oid_t a.f0 h.oid h.fit) (Ev.pos rfl ?_)
 refine Ev.bind (Wrap_t 6 [strOfNums (oidD a.f0)] (by decide) (by decide) (by decide) uf (by rw [jw]; omega)) (Ev.pos rfl ?_)
 refine Ev.bind (Wrap_t a.f1 [a.f2] k1 k2 k3 uf (by rw [jw]; omega)) (Ev.pos rfl ?_)
 rw [jw, jw]
 refine Ev.bind (Wrap_t 48 [wrapB 6 (strOfNums (oidD a.f0)), wrapB a.f1 a.f2] (by decide) (by decide) (by decide) uf (by rw [catB_two, ByteArray.size_append]; omega)) ?_
 rw [catB_two]
 exact Ev.now _
theorem attrs_r0 (l : List S40) (hl : l.length ≤ 1000) (ho : ∀ a ∈ l, AttrOk a) : ∀ (rest : List S40) (i : Nat) (out : List ByteArray), l.drop i = rest → out.length + rest.length ≤ 2000 →
  Ev (fun k => q9.l0 k out l (l.length : Int) i) (out ++ rest.map attrS)
 | [], i, out, h, hn => by
  have hi := list_nil h
  refine Ev.step (fun k => by rw [q9.l0]) ?_
  exact Ev.neg yg ((Ev.now _).to uf)
 | a :: rest, i, out, h, hn => by
  obtain ⟨hi, _, hr⟩ := jk (d := z40) h
  have ha := ho a (List.mem_of_mem_drop (i := i) cay)
  obtain ⟨k1, k2, k3⟩ := kind_ok ha
  obtain ⟨p1, p2⟩ := parts_size ha
  have h72 := oid_size ha
  have h64 := ha.len
  refine Ev.step (fun k => by rw [q9.l0]) ?_
  rw [rd26 h]
  refine Ev.pos yg (Ev.pos yg (Ev.pos yg ?_))
  have h1 : Ev (fun k => km.f k a.f0) (wrapB 6 (strOfNums (oidD a.f0))) := by
   unfold km.f
   refine Ev.bind (oid_r a.f0 ha.oid ha.fit) ?_
   refine Ev.bind (Wrap7_r 6 [strOfNums (oidD a.f0)] (by decide) (by decide) (by decide) uf (by rw [jw]; omega)) ?_
   rw [jw]
   exact Ev.now _
  refine Ev.bind h1 ?_
  refine Ev.bind (Wrap7_r a.f1 [a.f2] k1 k2 k3 uf (by rw [jw]; omega)) ?_
  rw [jw]
  refine Ev.bind (Wrap7_r 48 [wrapB 6 (strOfNums (oidD a.f0)), wrapB a.f1 a.f2] (by decide) (by decide) (by decide) uf (by rw [catB_two, ByteArray.size_append]; omega)) ?_
  rw [catB_two, w64 (n := (i : Int) + 1) yg yg]
  have hn' : out.length + (rest.length + 1) ≤ 2000 := by simpa using hn
  refine Ev.pos yg ?_
  have := attrs_r0 l hl ho rest (i + 1) (out ++ [attrS a]) hr ca5
  simpa [attrS] using this
theorem attrs_r (l : List S40) (hl : l.length ≤ 1000) (ho : ∀ a ∈ l, AttrOk a) : Ev (fun k => q9.f k l) (l.map attrS) := by
 have := attrs_r0 l hl ho l 0 [] rfl ca5
 simpa [q9.f] using this
structure RelOk (r : List S40) : Prop where
 len : r.length ≤ 4
 attrs : ∀ a ∈ r, AttrOk a
def relS (r : List S40) : ByteArray := wrapB 49 (catB (sortS (r.map attrS)))
theorem rel_cat {r : List S40} (h : RelOk r) : (catB (r.map attrS)).size ≤ 604 := by
 have h1 : (catB (r.map attrS)).size ≤ 151 * (r.map attrS).length := catB_le fun x hx => by
  obtain ⟨a, ha, rfl⟩ := List.mem_map.1 hx
  exact attrS_size (h.attrs a ha)
 have h2 := h.len
 rw [List.length_map] at h1
 omega
theorem relS_size {r : List S40} (h : RelOk r) : (relS r).size ≤ 609 := by
 have h1 := wrapB_size 49 (catB (sortS (r.map attrS)))
 rw [cat_sort_size] at h1
 have h2 := rel_cat h
 unfold relS
 omega
def nameS (n : List (List S40)) : ByteArray := wrapB 48 (catB (n.map relS))
theorem names_cat : ∀ {n : List (List S40)}, (∀ r ∈ n, RelOk r) → (catB (n.map relS)).size ≤ 609 * n.length := fun {n} h => by
 have h1 : (catB (n.map relS)).size ≤ 609 * (n.map relS).length := catB_le fun x hx => by
  obtain ⟨r, hr, rfl⟩ := List.mem_map.1 hx
  exact relS_size (h r hr)
 rwa [List.length_map] at h1
theorem enc_t1 (x5 : List ByteArray) (n : List (List S40)) (x22 x23 : Int) (y : List S40) (hy : RelOk y) (h5 : x5.length ≤ 1000) (r : ByteArray × Int) (hr : Ev (fun k => zu.l0 k (x5 ++ [relS y]) n x22 (wrap64 (x23 + 1))) r) : ∀ (rest : List S40) (i : Nat), y.drop i = rest →
  Ev (fun k => zu.l1 k x5 ((y.take i).map attrS) n x22 x23 y (y.length : Int) i) r
 | [], i, h => by
  have hi := list_nil h
  have h4 := hy.len
  refine Ev.step (fun k => by rw [zu.l1]) (Ev.neg yg ?_)
  rw [List.take_of_length_le hi]
  have hc := rel_cat hy
  refine Ev.bnd (order_t _ (by rw [List.length_map]; omega) yg) ?_
  refine Ev.bind (Wrap_t 49 [catB (sortS (y.map attrS))] (by decide) (by decide) (by decide) uf (by rw [jw, cat_sort_size]; omega)) (Ev.pos rfl (Ev.pos yg ?_))
  rw [jw]
  exact hr
 | a :: rest, i, h => by
  obtain ⟨hi, _, ht⟩ := jk (d := z40) h
  have h4 := hy.len
  have ha := hy.attrs a (List.mem_of_mem_drop (i := i) cay)
  refine Ev.step (fun k => by rw [zu.l1]) ?_
  rw [rd26 h]
  refine Ev.pos yg (Ev.pos yg (Ev.pos yg ?_))
  refine Ev.bind (attr_t ha) (Ev.pos rfl (Ev.pos ?_ ?_))
  ·rw [List.length_map, List.length_take]; omega
  ·rw [w64 (n := (i : Int) + 1) yg yg]
   have := enc_t1 x5 n x22 x23 y hy h5 r hr rest (i + 1) ht
   rw [List.take_succ_eq_append_getElem hi] at this
   rw [List.drop_eq_getElem_cons hi] at h
   injection h with h0 h2
   rw [h0, List.map_append] at this
   exact this
theorem enc_t0 (n : List (List S40)) (hn : n.length ≤ 100) (ho : ∀ r ∈ n, RelOk r) : ∀ (rest : List (List S40)) (i : Nat), n.drop i = rest →
  Ev (fun k => zu.l0 k ((n.take i).map relS) n (n.length : Int) i) (nameS n, 0)
 | [], i, h => by
  have hi := list_nil h
  refine Ev.step (fun k => by rw [zu.l0]) (Ev.neg yg ?_)
  rw [List.take_of_length_le hi]
  have hc := names_cat ho
  refine Ev.bind (Wrap_t 48 (n.map relS) (by decide) (by decide) (by decide) (by rw [List.length_map]; omega) yg) ?_
  exact Ev.now _
 | y :: rest, i, h => by
  obtain ⟨hi, _, ht⟩ := jk (d := ([] : List S40)) h
  have hy := ho y (List.mem_of_mem_drop (i := i) cay)
  refine Ev.step (fun k => by rw [zu.l0]) ?_
  rw [rdL4 h]
  refine Ev.pos yg (Ev.pos yg (Ev.pos yg ?_))
  have := enc_t1 ((n.take i).map relS) n (n.length : Int) (i : Int) y hy (by rw [List.length_map, List.length_take]; omega) (nameS n, 0) ?_ y 0 rfl
  ·simpa using this
  ·rw [w64 (n := (i : Int) + 1) yg yg]
   have := enc_t0 n hn ho rest (i + 1) ht
   rw [List.take_succ_eq_append_getElem hi] at this
   rw [List.drop_eq_getElem_cons hi] at h
   injection h with h0 h2
   rw [h0, List.map_append] at this
   exact this
theorem enc_r0 (n : List (List S40)) (hn : n.length ≤ 100) (ho : ∀ r ∈ n, RelOk r) : ∀ (rest : List (List S40)) (i : Nat), n.drop i = rest →
  Ev (fun k => zi.l0 k (catB ((n.take i).map relS)) n (n.length : Int) i) (nameS n, 0)
 | [], i, h => by
  have hi := list_nil h
  refine Ev.step (fun k => by rw [zi.l0]) (Ev.neg yg ?_)
  rw [List.take_of_length_le hi]
  have hc := names_cat ho
  refine Ev.bind (Wrap7_r 48 [catB (n.map relS)] (by decide) (by decide) (by decide) uf (by rw [jw]; omega)) ?_
  rw [jw]
  exact Ev.now _
 | y :: rest, i, h => by
  obtain ⟨hi, _, ht⟩ := jk (d := ([] : List S40)) h
  have hy := ho y (List.mem_of_mem_drop (i := i) cay)
  have hc := rel_cat hy
  have h4 := hy.len
  refine Ev.step (fun k => by rw [zi.l0]) ?_
  rw [rdL4 h]
  refine Ev.pos yg (Ev.pos yg (Ev.pos yg ?_))
  refine Ev.bind (attrs_r y yg hy.attrs) ?_
  refine Ev.bnd (order_r _ (by rw [List.length_map]; omega) yg) ?_
  refine Ev.bind (Wrap7_r 49 [catB (sortS (y.map attrS))] (by decide) (by decide) (by decide) uf (by rw [jw, cat_sort_size]; omega)) ?_
  rw [jw]
  have hs := relS_size hy
  have hp : (catB ((n.take i).map relS)).size ≤ 609 * (n.take i).length := names_cat fun r hr => ho r (List.mem_of_mem_take hr)
  have hq : (n.take i).length ≤ 100 := by rw [List.length_take]; omega
  refine Ev.pos (by change _ + (relS y).size ≤ _; omega) ?_
  rw [w64 (n := (i : Int) + 1) yg yg]
  have := enc_r0 n hn ho rest (i + 1) ht
  rw [List.take_succ_eq_append_getElem hi] at this
  rw [List.drop_eq_getElem_cons hi] at h
  injection h with h0 h2
  rw [h0, List.map_append, catB_append, show ([y].map relS) = [relS y] from rfl, jw] at this
  exact this
theorem okText_kind {k : Int} {s : ByteArray} (h : okText k s = true) : k = 12 ∨ k = 19 ∨ k = 22 := by
 unfold okText at h
 split at h
 ·omega
 split at h
 ·omega
 split at h
 ·omega
 ·cases h
theorem relFrom_ok : ∀ (l pre : List S40), Fit l → relFrom pre l = 0 → ∀ a ∈ l, AttrOk a
 | [], pre, _, _ => fun a ha => by cases ha
 | b :: l, pre, hf, h => by
  rw [relFrom] at h
  by_cases h1 : okOid (L b.f0) = true
  case neg => rw [if_neg h1] at h; omega
  rw [if_pos h1] at h
  by_cases h2 : L b.f2 = [] ∨ okText b.f1 b.f2 = false
  case pos => rw [if_pos h2] at h; omega
  rw [if_neg h2] at h
  by_cases h3 : 64 < b.f2.size
  case pos => rw [if_pos h3] at h; omega
  rw [if_neg h3] at h
  by_cases h4 : (pre.any fun c => decide (L c.f0 = L b.f0)) = true
  case pos => rw [if_pos h4] at h; omega
  rw [if_neg h4] at h
  have ih := relFrom_ok l (pre ++ [b]) (fun a ha => hf a (List.mem_cons_of_mem _ ha)) h
  intro a ha
  rcases List.mem_cons.1 ha with rfl | ha
  ·exact ⟨h1, (hf a (List.mem_cons_self ..)).1, okText_kind (s := a.f2) (by cases he : okText a.f1 a.f2 with
   | false => exact absurd (.inr he) h2
   | true => rfl), by omega⟩
  ·exact ih a ha
theorem relErr_ok {r : List S40} (hf : Fit r) (h : relErr r = 0) : RelOk r := by
 unfold relErr at h
 by_cases h0 : r.length = 0
 ·rw [if_pos h0] at h; omega
 rw [if_neg h0] at h
 by_cases h4 : 4 < r.length
 ·rw [if_pos h4] at h; omega
 rw [if_neg h4] at h
 exact ⟨by omega, relFrom_ok r [] hf h⟩
theorem relsErr_ok : ∀ (n : List (List S40)), (∀ r ∈ n, Fit r) → relsErr n = 0 → ∀ r ∈ n, RelOk r
 | [], _, _ => fun r hr => by cases hr
 | y :: n, hf, h => by
  rw [relsErr] at h
  by_cases h0 : relErr y = 0
  case neg => rw [if_neg h0] at h; exact absurd h h0
  rw [if_pos h0] at h
  intro r hr
  rcases List.mem_cons.1 hr with rfl | hr
  ·exact relErr_ok (hf r (List.mem_cons_self ..)) h0
  ·exact relsErr_ok n (fun r hr => hf r (List.mem_cons_of_mem _ hr)) h r hr
theorem nameErr_ok {n : List (List S40)} (hf : ∀ r ∈ n, Fit r) (h : nameErr n = 0) : n.length ≤ 8 ∧ ∀ r ∈ n, RelOk r := by
 unfold nameErr at h
 by_cases h8 : 8 < n.length
 ·rw [if_pos h8] at h; omega
 rw [if_neg h8] at h
 exact ⟨by omega, relsErr_ok n hf h⟩
def encAll (n : List (List S40)) : ByteArray × Int := if nameErr n = 0 then (nameS n, 0) else ((⟨#[]⟩ : ByteArray), nameErr n)
theorem Encode_f (n : List (List S40)) (hf : ∀ r ∈ n, Fit r) : Ev (fun k => zu.f k n) (encAll n) := by
 unfold zu.f encAll
 refine Ev.bind (Check_f n hf) ?_
 by_cases h : nameErr n = 0
 ·obtain ⟨h8, ho⟩ := nameErr_ok hf h
  rw [if_pos h]
  refine Ev.pos h ?_
  have := enc_t0 n yg ho n 0 rfl
  simpa using this
 ·rw [if_neg h]
  exact Ev.neg h (Ev.now _)
theorem EncodeName_f (n : List (List S40)) (hf : ∀ r ∈ n, Fit r) : Ev (fun k => zi.f k n) (encAll n) := by
 unfold zi.f encAll
 refine Ev.bind (CheckName_f n hf) ?_
 by_cases h : nameErr n = 0
 ·obtain ⟨h8, ho⟩ := nameErr_ok hf h
  rw [if_pos h]
  refine Ev.pos h ?_
  have := enc_r0 n yg ho n 0 rfl
  simpa [catB_nil] using this
 ·rw [if_neg h]
  exact Ev.neg h (Ev.now _)
end Go.Proofs.YthdoohfdminfgaaGreatDoor.Pl
end
section
namespace Go.Proofs.YthdoohfdminfgaaGreatDoor.C
open Go.RowKit Go.ChangeShapes Go.WideShapes Go.Proofs.YthdoohfdminfgaaGreatDoorW.PrintWords Go.Proofs.YthdoohfdminfgaaGreatDoorW.PrintLast Go.Proofs.YthdoohfdminfgaaGreatDoorW.PrintMore Go.Proofs.YthdoohfdminfgaaGreatDoor.Pl
set_option linter.unusedVariables false
set_option maxRecDepth 100000
def FitN (n : List (List S40)) : Prop := ∀ r ∈ n, Fit r
theorem encT (W : World) (hG : LibHeld W) {A : Option Addr} {c : Nat} {n : List (List S40)} (hn : Kd.C (Kd.slice 40 k40) W A n.length n) (hc : n.length ≤ c) (hf : FitN n) {s : ByteArray} {x : Int} (h : encAll n = (s, x)) :
  Calls Tryz.prog 20 #[.agg #[.slice A n.length c]] W fun e w' => e = .returned (.tuple #[.string s, .int .i64 x]) ∧ Below W.heap.size W w' := by
 obtain ⟨k, hk⟩ := (Encode_f n hf).rounds
 rw [h] at hk
 exact zu.calls k A c n s x W hG hn hc hk
theorem encR (W : World) {A : Option Addr} {c : Nat} {n : List (List S40)} (hn : Kd.C (Kd.slice 40 k40) W A n.length n) (hc : n.length ≤ c) (hf : FitN n) {s : ByteArray} {x : Int} (h : encAll n = (s, x)) :
  Calls Tryz.prog 10 #[.agg #[.slice A n.length c]] W fun e w' => e = .returned (.tuple #[.string s, .int .i64 x]) ∧ Below W.heap.size W w' := by
 obtain ⟨k, hk⟩ := (EncodeName_f n hf).rounds
 rw [h] at hk
 exact zi.calls k A c n s x W hn hc hk
theorem chkT (W : World) (hG : LibHeld W) {A : Option Addr} {c : Nat} {n : List (List S40)} (hn : Kd.C (Kd.slice 40 k40) W A n.length n) (hc : n.length ≤ c) (hf : FitN n) {x : Int} (h : nameErr n = x) :
  Calls Tryz.prog 21 #[.agg #[.slice A n.length c]] W fun e w' => e = .returned (.int .i64 x) ∧ Below W.heap.size W w' := by
 obtain ⟨k, hk⟩ := (Check_f n hf).rounds
 rw [h] at hk
 exact zy.calls k A c n x W hG hn hc hk
theorem chkR (W : World) {A : Option Addr} {c : Nat} {n : List (List S40)} (hn : Kd.C (Kd.slice 40 k40) W A n.length n) (hc : n.length ≤ c) (hf : FitN n) {x : Int} (h : nameErr n = x) :
  Calls Tryz.prog 22 #[.agg #[.slice A n.length c]] W fun e w' => e = .returned (.int .i64 x) ∧ Below W.heap.size W w' := by
 obtain ⟨k, hk⟩ := (CheckName_f n hf).rounds
 rw [h] at hk
 exact zg.calls k A c n x W hn hc hk
theorem policy_f (x : Int) (h0 : 0 ≤ x) (h9 : x < 9) : ∃ s, jr.f x = some s ∧ s.size ≤ 200 := by
 have hc : x = 0 ∨ x = 1 ∨ x = 2 ∨ x = 3 ∨ x = 4 ∨ x = 5 ∨ x = 6 ∨ x = 7 ∨ x = 8 := by omega
 rcases hc with rfl | rfl | rfl | rfl | rfl | rfl | rfl | rfl | rfl <;> exact ⟨_, by unfold jr.f; rfl, by decide⟩
theorem policyT (x : Int) (h0 : 0 ≤ x) (h9 : x < 9) (W : World) : Calls Tryz.prog 19 #[.int .i64 x] W fun e w' => ∃ s, e = .returned (.string s) ∧ s.size ≤ 200 ∧ Below W.heap.size W w' := by
 obtain ⟨s, hs, hz⟩ := policy_f x h0 h9
 refine (jr.calls x s W hs).mono ?_
 rintro e w' ⟨rfl, hb⟩
 exact ⟨s, rfl, hz, hb⟩
theorem open_attr {H : Type} {enc : TypeId × Value → H} {W : World} {sp : Nat → Bool} {held : Bool} {r : Reach} {b0 : Nat} {v : Value} {d : DataW H} {ps : List MemPlace} (hval : Value.okWide Tryz.prog W r b0 40 v) (h : DataW.Trod enc Tryz.prog W 0 sp held 40 v d ps) :
  ∃ (t : ByteArray) (kd : Int) (s : ByteArray), v = .agg #[.string t, .int .i64 kd, .string s] ∧ t.size ≤ 9223372036854775807 ∧ s.size ≤ 9223372036854775807 := by
 obtain ⟨cs, rfl, hsz⟩ := okWide_struct Tryz.underlying40 hval
 have ce : Tryz.prog.cellsOf 40 = 3 := by kernel_rfl
 have c9 : Tryz.prog.cellsOf 9 = 1 := by kernel_rfl
 have c3 : Tryz.prog.cellsOf 3 = 1 := by kernel_rfl
 rw [ce] at hsz
 obtain ⟨fuel, hf⟩ := h
 obtain ⟨y0, y1, y2, n', _, _, g0, g1, g2⟩ := Deep.trod_struct3 Tryz.underlying40 hf
 obtain ⟨v0, v1, v2, rfl⟩ : ∃ v0 v1 v2, cs = #[v0, v1, v2] := by
  obtain ⟨l⟩ := cs
  match l, hsz with
  | [v0, v1, v2], _ => exact ⟨v0, v1, v2, rfl⟩
 simp [Value.cells, c9, c3] at g0 g1 g2
 obtain ⟨s0, e0, _, h0⟩ := DataW.trod_string Tryz.underlying9 g0
 obtain ⟨n1, e1, _⟩ := DataW.trod_int Tryz.underlying3 g1
 obtain ⟨s2, e2, _, h2⟩ := DataW.trod_string Tryz.underlying9 g2
 injection e0 with e0; injection e1 with e1; injection e2 with e2
 exact ⟨s0, n1, s2, by rw [e0, e1, e2], h0, h2⟩
def Wee (n : List (List S40)) : Prop := ∀ r ∈ n, ∀ a ∈ r, a.f0.size ≤ 1000 ∧ a.f2.size ≤ 1000
theorem Wee.fit {n : List (List S40)} (h : Wee n) : FitN n := fun r hr a ha => by have := h r hr a ha; omega
theorem made12_wee : ∀ a ∈ made12, a.f0.size ≤ 1000 ∧ a.f2.size ≤ 1000 := by decide +kernel
theorem RelMade_wee {r : List S40} (h : RelMade r) : 0 < r.length ∧ r.length ≤ 2 ∧ ∀ a ∈ r, a.f0.size ≤ 1000 ∧ a.f2.size ≤ 1000 := by
 rcases h with ⟨a, ha, rfl⟩ | ⟨a, b, ha, hb, _, rfl⟩
 ·exact ⟨by simp, by simp, fun q hq => by rw [List.mem_singleton.1 hq]; exact made12_wee a ha⟩
 ·refine ⟨by simp, by simp, fun q hq => ?_⟩
  rcases List.mem_cons.1 hq with rfl | hq
  ·exact made12_wee _ ha
  ·rw [List.mem_singleton.1 hq]; exact made12_wee b hb
theorem Wee.put {n : List (List S40)} (h : Wee n) {j k : Nat} {r : List S40} (hr : r ∈ n) {q : S40} (hq : q.f0.size ≤ 1000 ∧ q.f2.size ≤ 1000) : Wee (n.set j (r.set k q)) := by
 intro r' hr' a ha
 rcases List.mem_or_eq_of_mem_set hr' with h1 | rfl
 ·exact h r' h1 a ha
 ·rcases List.mem_or_eq_of_mem_set ha with h2 | rfl
  ·exact h r hr a h2
  ·exact hq
theorem fit_l1 (n : List (List S40)) (hn : BigN n) (i : Nat) (hi : i < n.length) (y : List S40) (hy : y.length ≤ 8) (rest : ∃ r, Ev (fun k => zc.l0 k n (n.length : Int) ((i + 1 : Nat) : Int)) r ∧ (r = true → FitN (n.drop (i + 1)))) :
  ∀ (d j : Nat), j + d = y.length → ∃ r, Ev (fun k => zc.l1 k n (n.length : Int) i y (y.length : Int) j) r ∧ (r = true → Fit (y.drop j) ∧ FitN (n.drop (i + 1)))
 | 0, j, h => by
  obtain ⟨r, hr, hp⟩ := rest
  refine ⟨r, ?_, fun h2 => ⟨fun a ha => ?_, hp h2⟩⟩
  case refine_2 => rw [List.drop_eq_nil_of_le yg] at ha; cases ha
  refine Ev.step (fun k => by rw [zc.l1]) ?_
  rw [w64 (n := (i : Int) + 1) yg (by have := hn.1; omega)]
  exact Ev.neg yg hr
 | d + 1, j, h => by
  have hj : j < y.length := by omega
  obtain ⟨r, hr, hp⟩ := fit_l1 n hn i hi y hy rest d (j + 1) yg
  have hd : y.drop j = y[j] :: y.drop (j + 1) := List.drop_eq_getElem_cons hj
  have key : ∀ b : Bool, b = false → (b = true → Fit (y.drop j) ∧ FitN (n.drop (i + 1))) := fun b hb h2 => by rw [hb] at h2; cases h2
  by_cases h0 : (((qk y (j : Int)).f0).size : Int) > 200
  ·refine ⟨false, ?_, key false rfl⟩
   refine Ev.step (fun k => by rw [zc.l1]) ?_
   exact Ev.pos yg (Ev.pos yg (Ev.pos yg (Ev.pos h0 (Ev.now _))))
  ·by_cases h2 : (((qk y (j : Int)).f2).size : Int) > 200
   ·refine ⟨false, ?_, key false rfl⟩
    refine Ev.step (fun k => by rw [zc.l1]) ?_
    exact Ev.pos yg (Ev.pos yg (Ev.pos yg (Ev.neg h0 (Ev.pos h2 (Ev.now _)))))
   ·refine ⟨r, ?_, fun hr2 => ⟨fun a ha => ?_, (hp hr2).2⟩⟩
    ·refine Ev.step (fun k => by rw [zc.l1]) ?_
     rw [w64 (n := (j : Int) + 1) yg yg]
     exact Ev.pos yg (Ev.pos yg (Ev.pos yg (Ev.neg h0 (Ev.neg h2 (by simpa using hr)))))
    ·rw [hd] at ha
     rcases List.mem_cons.1 ha with rfl | ha
     ·rw [at40 hj] at h2 h0
      omega
     ·exact (hp hr2).1 a ha
theorem fit_l0 (n : List (List S40)) (hn : BigN n) : ∀ (d i : Nat), i + d = n.length → ∃ r, Ev (fun k => zc.l0 k n (n.length : Int) i) r ∧ (r = true → FitN (n.drop i))
 | 0, i, h => ⟨true, Ev.step (f := fun _ => some true) (fun k => by rw [zc.l0, if_neg yg]) (Ev.now _), fun _ q hq => by rw [List.drop_eq_nil_of_le yg] at hq; cases hq⟩
 | d + 1, i, h => by
  have hi : i < n.length := by omega
  have hd : n.drop i = n[i] :: n.drop (i + 1) := List.drop_eq_getElem_cons hi
  by_cases h8 : ((zz n (i : Int)).length : Int) > 8
  ·refine ⟨false, ?_, fun h2 => by cases h2⟩
   refine Ev.step (fun k => by rw [zc.l0]) ?_
   exact Ev.pos yg (Ev.pos yg (Ev.pos yg (Ev.pos h8 (Ev.now _))))
  ·obtain ⟨r, hr, hp⟩ := fit_l1 n hn i hi (zz n (i : Int)) yg (fit_l0 n hn d (i + 1) yg) (zz n (i : Int)).length 0 yg
   refine ⟨r, ?_, fun h2 q hq => ?_⟩
   ·refine Ev.step (fun k => by rw [zc.l0]) ?_
    exact Ev.pos yg (Ev.pos yg (Ev.pos yg (Ev.neg h8 (by simpa using hr))))
   ·rw [hd] at hq
    rcases List.mem_cons.1 hq with rfl | hq
    ·rw [atL5 hi] at hp
     simpa using (hp h2).1
    ·exact (hp h2).2 q hq
theorem short_fit (n : List (List S40)) (hB : BigN n) : ∃ r, (∃ k, zc.f k n = some r) ∧ (r = true → FitN n) := by
 have hf : ∃ r, Ev (fun k => zc.f k n) r ∧ (r = true → FitN n) := by
  unfold zc.f
  by_cases h : (n.length : Int) > 12
  ·exact ⟨false, Ev.pos h (Ev.now _), fun h2 => by cases h2⟩
  ·obtain ⟨r, hr, hp⟩ := fit_l0 n hB n.length 0 yg
   exact ⟨r, Ev.neg h (by simpa using hr), fun h2 q hq => hp h2 q (by simpa using hq)⟩
 obtain ⟨r, hr, hp⟩ := hf
 exact ⟨r, hr.rounds, hp⟩
theorem elem26 {W : World} {base gr n cap : Nat} {ok : Nat → Prop} {r : List S40} (h : Kd.R k40 40 W base ok (.slice (some ⟨gr, 0, none⟩) n cap) r) (k : Nat) (p : S40) (hp : r[k]? = some p) :
  W.cell? ⟨gr, k * 3, none⟩ = some (.string p.f0) ∧ W.cell? ⟨gr, k * 3 + 1, none⟩ = some (.int .i64 p.f1) ∧ W.cell? ⟨gr, k * 3 + 2, none⟩ = some (.string p.f2) ∧ ∀ i, W.frozen? ⟨gr, i, none⟩ = false := by
 obtain ⟨hk, rfl⟩ := List.getElem?_eq_some_iff.1 hp
 have hn := (Kd.zq h).1
 obtain ⟨c, hcl, hM, hcc, _⟩ := Kd.R_elem h z40 (k : Int) yg yg
 rw [Int.toNat_natCast, List.getD_eq_getElem?_getD, List.getElem?_eq_getElem hk] at hM
 have hc := k40_open (k40.K_of_M hM)
 subst hc
 rw [Int.toNat_natCast] at hcc
 obtain ⟨oc, ho⟩ := Kd.R_typed h gr ca2
 exact ⟨hcc 0 _ rfl, hcc 1 _ rfl, hcc 2 _ rfl, fun i => qr ho i⟩
theorem seg26 {W w : World} {gr n cap : Nat} {ok : Nat → Prop} {r : List S40} (h : Kd.R k40 40 W w.heap.size ok (.slice (some ⟨gr, 0, none⟩) n cap) r) (hb : Below w.heap.size w W) (k : Nat) (p : S40) (hp : r[k]? = some p) (j : Nat) (seg : List Value) (x' : S40) (hj : j + seg.length ≤ 3)
  (hM : ([.string p.f0, .int .i64 p.f1, .string p.f2] : List Value).take j ++ seg ++ ([.string p.f0, .int .i64 p.f1, .string p.f2] : List Value).drop (j + seg.length) = [.string x'.f0, .int .i64 x'.f1, .string x'.f2]) :
  Kd.R k40 40 (W.setCells gr (k * 3 + j) seg) w.heap.size ok (.slice (some ⟨gr, 0, none⟩) n cap) (r.set k x') ∧ Below w.heap.size w (W.setCells gr (k * 3 + j) seg) ∧ W.grownBy (W.setCells gr (k * 3 + j) seg) (some gr) := by
 obtain ⟨hk, hpe⟩ := List.getElem?_eq_some_iff.1 hp
 have hn := (Kd.zq h).1
 obtain ⟨c, hcl, hM0, hcc, _⟩ := Kd.R_elem h z40 (k : Int) yg yg
 rw [Int.toNat_natCast, List.getD_eq_getElem?_getD, List.getElem?_eq_getElem hk] at hM0
 have hc := k40_open (k40.K_of_M hM0)
 rw [show (some r[k]).getD z40 = p from hpe] at hc
 subst hc
 have hbg : w.heap.size ≤ gr := Kd.je h gr ca2
 obtain ⟨h1, h2⟩ := Kd.R_seg (okp := fun _ => False) h (k : Int) yg yg hcl hcc (j := j) (seg := seg) hj (x' := x') (by rw [hM]; exact k40_mkM _ _ _ x') (fun _ hf => hf.elim)
 rw [Int.toNat_natCast] at h1 h2
 refine ⟨h1, hb.trans ⟨h2.os, h2.tape, h2.output, h2.size, fun i hi => ?_⟩, h2⟩
 rcases Nat.lt_or_ge i W.heap.size with hlt | hge
 ·exact h2.block i hlt (fun he => by injection he with he; omega)
 ·exact setCells_far seg _ i yg
theorem lit4 {W : World} {b T : Nat} (h : W.heap[b]? = some (.cells #[.int .i64 12, .int .i64 22, .int .i64 19, .int .i64 4] T (0, 0))) (y : Nat) (hy : y < 4) : ∃ K : Int, W.cell? ⟨b, y, none⟩ = some (.int .i64 K) := by
 match y, hy with
 | 0, _ => exact ⟨12, (qo h 0).trans rfl⟩
 | 1, _ => exact ⟨22, (qo h 1).trans rfl⟩
 | 2, _ => exact ⟨19, (qo h 2).trans rfl⟩
 | 3, _ => exact ⟨4, (qo h 3).trans rfl⟩
 | y + 4, hy => exact absurd hy yg
structure Sit (w : World) (g ga gt gn : Nat) (ra : Value) (t : ByteArray) (kd : Int) (v : ByteArray) (An : Option Addr) (cn : Nat) (W : World) (n : List (List S40)) : Prop where
 di : DK w W g
 hb : Below w.heap.size w W
 ba : W.heap[ga]? = some (.cells #[ra] 31 (0, 0))
 bt : W.heap[gt]? = some (.cells #[.string t, .int .i64 kd, .string v] 40 (0, 0))
 bn : W.heap[gn]? = some (.cells #[.slice An n.length cn] 31 (0, 0))
 sn : Kd.S (Kd.slice 40 k40) 42 W w.heap.size (fun k => k ≠ g) (.slice An n.length cn) n
 la : ga < w.heap.size
 lt : gt < w.heap.size
 ng : w.heap.size ≤ gn ∧ gn ≠ g
section
variable {w : World} {g ga gt gn : Nat} {ra : Value} {t : ByteArray} {kd : Int} {v : ByteArray} {An : Option Addr} {cn : Nat} {W W' : World} {n : List (List S40)}
theorem Sit.below (h : Sit w g ga gt gn ra t kd v An cn W n) (hb : Below W.heap.size W W') : Sit w g ga gt gn ra t kd v An cn W' n :=
 ⟨h.di.below hb, qm h.hb hb, q8 h.ba hb, q8 h.bt hb, q8 h.bn hb, Kd.k5 h.sn hb, h.la, h.lt, h.ng⟩
theorem Sit.call (h : Sit w g ga gt gn ra t kd v An cn W n) (hd : DK w W' g) (hb : Below w.heap.size w W') (hk : KeepBut W W' g none) : Sit w g ga gt gn ra t kd v An cn W' n :=
 have hg := h.di.ge
 ⟨hd, hb, KeepBut.blk hk h.ba (by have := h.la; omega) uf, KeepBut.blk hk h.bt (by have := h.lt; omega) uf, KeepBut.blk hk h.bn h.ng.2 uf, Kd.S_keep h.sn hk (fun _ hk => hk), h.la, h.lt, h.ng⟩
theorem Sit.head (h : Sit w g ga gt gn ra t kd v An cn W n) (hn : 0 < n.length) : ∃ q, An = some ⟨q, 0, none⟩ := by
 obtain ⟨ad, c, e⟩ := Kd.R_slice1 (Kd.S_R h.sn) hn
 injection e with e1 _ _
 subst e1
 obtain ⟨q, rfl⟩ := Kd.R_head (Kd.S_R h.sn)
 exact ⟨q, rfl⟩
theorem Sit.lend {q : Nat} (h : Sit w g ga gt gn ra t kd v (some ⟨q, 0, none⟩) cn W n) (j : Nat) (hj : j < n.length) (hr : 0 < (n[j]'hj).length) :
  ∃ (gr c : Nat) (oki : Nat → Prop), W.cell? ⟨q, j, none⟩ = some (.slice (some ⟨gr, 0, none⟩) (n[j]'hj).length c) ∧ Kd.R k40 40 W w.heap.size oki (.slice (some ⟨gr, 0, none⟩) (n[j]'hj).length c) (n[j]'hj) ∧ gn ≠ gr ∧ w.heap.size ≤ gr ∧
   ∀ W1 r', Kd.R k40 40 W1 w.heap.size oki (.slice (some ⟨gr, 0, none⟩) (n[j]'hj).length c) r' → Below w.heap.size w W1 → W.grownBy W1 (some gr) → Sit w g ga gt gn ra t kd v (some ⟨q, 0, none⟩) cn W1 (n.set j r') := by
 obtain ⟨oki, cs, hcl, hM, hcc, hoki, hback⟩ := Kd.S_borrow h.sn ([] : List S40) (j : Int) yg yg
 have hgd : n.getD ((j : Int)).toNat [] = n[j]'hj := by rw [Int.toNat_natCast, List.getD_eq_getElem?_getD, List.getElem?_eq_getElem hj]; rfl
 rw [hgd] at hM
 obtain ⟨vr, rfl, hR⟩ := hM
 obtain ⟨ad, c, rfl⟩ := Kd.R_slice1 hR hr
 obtain ⟨gr, rfl⟩ := Kd.R_head hR
 have hcell := hcc 0 _ rfl
 have hge : w.heap.size ≤ gr := Kd.je hR gr ca2
 have hok : oki gr := hR.1 gr ca2
 have hne : gn ≠ gr := fun e => Kd.R_ne hR h.bn (by decide) (by rw [e]; simp [Value.ownBlock])
 refine ⟨gr, c, oki, ?_, hR, hne, hge, fun W1 r' hR1 hb1 hg1 => ?_⟩
 ·rw [show (((j : Int)).toNat * (Kd.slice 40 k40).sz + 0) = j from by rw [show (Kd.slice 40 k40).sz = 1 from rfl]; simp, Go.Proofs.YthdoohfdminfgaaGreatDoorW.PrintWords.add_plain] at hcell
  exact hcell
 ·have hS := hback (x' := r') hg1 (fun k hk => by injection hk with hk; subst hk; exact hok) ⟨_, rfl, hR1⟩
  rw [Int.toNat_natCast] at hS
  have hgg : gr ≠ g := (hoki gr hok).1
  have hl : (n.set j r').length = n.length := List.length_set
  refine ⟨h.di.grown hg1 (fun e => hgg (by injection e with e; exact e.symm)), hb1, ja h.ba hg1 (fun e => by injection e with e; have := h.la; omega), ja h.bt hg1 (fun e => by injection e with e; have := h.lt; omega), ?_, by rw [hl]; exact hS, h.la, h.lt, h.ng⟩
  rw [hl]
  exact ja h.bn hg1 (fun e => hne (by injection e))
theorem Sit.lend' {q : Nat} (h : Sit w g ga gt gn ra t kd v (some ⟨q, 0, none⟩) cn W n) (j : Nat) (r : List S40) (hj : n[j]? = some r) (hr : 0 < r.length) :
  ∃ (gr c : Nat) (oki : Nat → Prop), W.cell? ⟨q, j, none⟩ = some (.slice (some ⟨gr, 0, none⟩) r.length c) ∧ Kd.R k40 40 W w.heap.size oki (.slice (some ⟨gr, 0, none⟩) r.length c) r ∧ gn ≠ gr ∧ w.heap.size ≤ gr ∧
   ∀ W1 r', Kd.R k40 40 W1 w.heap.size oki (.slice (some ⟨gr, 0, none⟩) r.length c) r' → Below w.heap.size w W1 → W.grownBy W1 (some gr) → Sit w g ga gt gn ra t kd v (some ⟨q, 0, none⟩) cn W1 (n.set j r') := by
 obtain ⟨h1, rfl⟩ := List.getElem?_eq_some_iff.1 hj
 exact h.lend j h1 hr
theorem Sit.outer {q : Nat} (h : Sit w g ga gt gn ra t kd v (some ⟨q, 0, none⟩) cn W n) : ∃ oc, W.heap[q]? = some (.cells oc 42 (0, 0)) ∧ q ≠ g := by
 have := Kd.S_typed h.sn q ca2
 obtain ⟨oc, ho⟩ := this
 exact ⟨oc, ho, (Kd.S_R h.sn).1 q ca2⟩
end
end Go.Proofs.YthdoohfdminfgaaGreatDoor.C
end
