/- Words, walks and plain laws that the claim rests on, gathered. -/
import Derived.Lib.SplitLaws
import Derived.OrdersHeld
import Derived.Deep.RegionHeld3
import Derived.Laws.BitsLemmas
import Derived.RowKit
import Derived.Below
import Derived.Deep.Draws
import Derived.Deep.AppendLies
import Derived.Maps.AppendAt
import Derived.OwnWalk
import Derived.Laws.BytesArg
import Derived.Laws.MakeOwn
import Derived.Laws.OwnMore
import Derived.Deep.OwnRows
import Derived.Tactics
import Derived.Lib.ConvBytes
import Derived.Laws.Slices
import Derived.WalkKit
import Derived.KernelRfl
import Derived.RowKit3
import Derived.Deep.LoopGhost
import Derived.Deep.QuietTactic
import Derived.BigQuiet
import Derived.WideLaws
import Derived.Deep.DeepCutAuto
import Derived.Deep.CutBlock
import Derived.Laws.Rows
import Derived.Lib.AppendStr
import Derived.ArgAppend
import Derived.Laws.IdiomCopy
import Derived.Test.YthdoohfdminfgaaGreatDoorProg
import Derived.WalkSpells
import Derived.WalkLawsBesides
import Derived.Shelf.Strings.Builder1
import Derived.Shelf.Strings.Builder2
import Derived.Shelf.Strings.OnBuilder
import Derived.Shelf.Small.Bits
import Derived.Shelf.Small.Strs
import Derived.Shelf.Strings.BuilderF
import Derived.Shelf.Strings.BuilderK
import Derived.Shelf.Utf8.RuneCount
import Derived.Shelf.Strings.Builder2Cap
import Derived.Shelf.Strconv.Itoa0
import Derived.Shelf.Strconv.Itoa1
import Derived.Shelf.LaysM
import Derived.Shelf.Strconv.Itoa2
import Derived.Shelf.Strconv.Itoa3
import Derived.Shelf.Strings.Search1
import Derived.Shelf.Strings.Search2
import Derived.Shelf.Strings.Search3
import Derived.Shelf.Strings.Cut
import Derived.Shelf.Strings.Count
import Derived.Shelf.Strings.Shaped
import Derived.Shelf.Sort.Plain
import Derived.Ground.GgsProg
import Derived.Shelf.GgSortFunc.Insertion
import Derived.Shelf.GgSortFunc.Small
import Derived.Shelf.GgSortFunc.InsertionK
import Derived.Shelf.GgSortFunc.SmallK
import Derived.Shelf.GgSortFunc.Tiny
import Derived.Shelf.GgSortFunc.Compose
import Derived.Shelf.GgSortFunc.LotD
import Derived.Shelf.GgSortFunc.Pivot
import Derived.Shelf.GgSortFunc.Partition
import Derived.Shelf.GgSortFunc.Pdq
import Derived.Shelf.GgSortFunc.Whole
import Derived.Shelf.Strings.Prefix
import Derived.Shelf.Strings.Split
import Derived.Shelf.Strings.SplitShaped
import Derived.Shelf.Unicode.Decode
import Derived.Shelf.Strings.RuneCount
import Derived.Shelf.Strings.Explode
import Derived.Shelf.Unicode.DecodeSlow
import Derived.Shelf.Unicode.DecodeAny
import Derived.Shelf.Strings.BuilderCap
import Derived.Shelf.Slices.In.SortNone
import Derived.Shelf.Slices.In.SortNone2
import Derived.Shelf.SlSortFunc.Xorshift
import Derived.Shelf.SlSortFuncK.ComposeK
import Derived.Shelf.SlSortFuncK.SiftDownK
import Derived.Shelf.SlSortFuncK.HeapSortK
import Derived.Shelf.SlSortFuncK.PartialInsertionK
import Derived.Shelf.SlSortFuncK.LotDK
import Derived.Shelf.SlSortFuncK.PivotK
import Derived.Shelf.SlSortFuncK.PartitionK
import Derived.Shelf.SlSortFunc.SiftDown
import Derived.Shelf.SlSortFunc.HeapSort
import Derived.Shelf.SlSortFunc.PartialInsertion
import Derived.Shelf.SlSortFuncK.PdqK
import Derived.Shelf.SlSortFuncK.WholeK
import Derived.Laws.StructEq
import Derived.Sort.Walk0
import Derived.Lib.Join
import Derived.Lib.ItoaNum
import Derived.Test.YthdoohfdminfgaaGreatDoorNK0
import Derived.Test.YthdoohfdminfgaaGreatDoorNK1
import Derived.Test.YthdoohfdminfgaaGreatDoorNK2
import Derived.Test.YthdoohfdminfgaaGreatDoorNK3
import Derived.Test.YthdoohfdminfgaaGreatDoorNK4
import Derived.Test.YthdoohfdminfgaaGreatDoorNK5
import Derived.Test.YthdoohfdminfgaaGreatDoorNK6
import Derived.Test.YthdoohfdminfgaaGreatDoorNK7
import Derived.Test.YthdoohfdminfgaaGreatDoorNK8
import Derived.Test.YthdoohfdminfgaaGreatDoorNK9
import Derived.Test.YthdoohfdminfgaaGreatDoorNK10
import Derived.Test.YthdoohfdminfgaaGreatDoorNK11
import Derived.Test.YthdoohfdminfgaaGreatDoorNK12
import Derived.Test.YthdoohfdminfgaaGreatDoorNK13
import Derived.Test.YthdoohfdminfgaaGreatDoorNKc
namespace Go.Proofs.YthdoohfdminfgaaGreatDoorW.PrintLast
end Go.Proofs.YthdoohfdminfgaaGreatDoorW.PrintLast
namespace Go.Proofs.YthdoohfdminfgaaGreatDoorW.PrintMore
end Go.Proofs.YthdoohfdminfgaaGreatDoorW.PrintMore
namespace Go.Proofs.YthdoohfdminfgaaGreatDoorW.PrintWords
end Go.Proofs.YthdoohfdminfgaaGreatDoorW.PrintWords
section
namespace Go.Proofs.YthdoohfdminfgaaGreatDoor.Pl
open Go.RowKit Go.Proofs.YthdoohfdminfgaaGreatDoorW.PrintWords Go.Proofs.YthdoohfdminfgaaGreatDoor.C
set_option linter.unusedSimpArgs false
set_option linter.unusedVariables false
def val (acc : Int) : List UInt8 → Int
 | [] => acc
 | c :: r => val (10 * acc + ((c.toNat : Int) - 48)) r
def digs (l : List UInt8) : Bool := l.all fun c => decide (48 ≤ c.toNat) && decide (c.toNat ≤ 57)
theorem digs_cons (c : UInt8) (l : List UInt8) : digs (c :: l) = true ↔ (48 ≤ c.toNat ∧ c.toNat ≤ 57) ∧ digs l = true := by simp [digs]
theorem digs_append (a b : List UInt8) : digs (a ++ b) = true ↔ digs a = true ∧ digs b = true := by simp only [digs, List.all_append, Bool.and_eq_true]
theorem val_bounds : ∀ (l : List UInt8) (acc : Int), digs l = true → 0 ≤ acc → 0 ≤ val acc l
 | [], acc, _, h => h
 | c :: r, acc, hd, h => by
  have hc := (digs_cons c r).1 hd
  exact val_bounds r _ hc.2 yg
def okArc (l : List UInt8) : Bool := decide (l.length ≠ 0) && decide (l.length ≤ 10) && !(decide (l.headD 0 = 48) && decide (1 < l.length)) && digs l && decide (val 0 l ≤ 2147483647)
theorem okArc_iff (l : List UInt8) : okArc l = true ↔ l.length ≠ 0 ∧ l.length ≤ 10 ∧ ¬ (l.headD 0 = 48 ∧ 1 < l.length) ∧ digs l = true ∧ val 0 l ≤ 2147483647 := by
 simp only [okArc, Bool.and_eq_true, decide_eq_true_eq, Bool.not_eq_true', Bool.and_eq_false_iff, decide_eq_false_iff_not, and_assoc]
 constructor
 ·rintro ⟨h1, h2, h3, h4, h5⟩
  exact ⟨h1, h2, fun h => by rcases h3 with h3 | h3; exact h3 h.1; exact h3 h.2, h4, h5⟩
 ·rintro ⟨h1, h2, h3, h4, h5⟩
  refine ⟨h1, h2, ?_, h4, h5⟩
  by_cases h : l.headD 0 = 48
  ·exact Or.inr fun h' => h3 ⟨h, h'⟩
  ·exact Or.inl h
theorem pow10_le (i : Nat) (h : i ≤ 10) : (10 : Int) ^ i ≤ 10000000000 := by
 have : ∀ i : Fin 11, (10 : Int) ^ i.val ≤ 10000000000 := by decide
 exact this ⟨i, by omega⟩
def rootOk (l : List Int) : Bool := decide (l.getD 0 0 ≤ 1) && decide (l.getD 1 0 ≤ 39) || decide (l.getD 0 0 = 2)
def okOid (l : List UInt8) : Bool := decide (2 ≤ (pieces 46 l).length) && decide ((pieces 46 l).length ≤ 12) && (pieces 46 l).all okArc && rootOk ((pieces 46 l).map (val 0))
end Go.Proofs.YthdoohfdminfgaaGreatDoor.Pl
end
section
namespace Go.Proofs.YthdoohfdminfgaaGreatDoor.Pl
open Go.RowKit Go.Proofs.YthdoohfdminfgaaGreatDoorW.PrintWords Go.Proofs.YthdoohfdminfgaaGreatDoor.C
set_option linter.unusedSimpArgs false
set_option linter.unusedVariables false
def refEnd (l : List Int) : List Int × Bool := if 2 ≤ l.length ∧ rootOk l = true then (l, true) else ([], false)
def refFin (out : List Int) (ps : List (List UInt8)) : List Int × Bool := if ps.all okArc = true ∧ out.length + ps.length ≤ 12 then refEnd (out ++ ps.map (val 0)) else ([], false)
theorem arcs_end (out : List Int) (h : ∀ x ∈ out, (0 : Int) ≤ x) : Ev (fun k => if (out.length : Int) < 2 then qm.j4 k out true else (if 0 < (out.length : Int) then (if rd out 0 > 2 then qm.j4 k out true else (if rd out 0 < 2 then (if 1 < (out.length : Int) then qm.j4 k out (decide (rd out 1 > 39)) else none) else qm.j4 k out false)) else none)) (refEnd out) := by
 have jt : Ev (fun k => qm.j4 k out true) ([], false) := Ev.step (fun k => by rw [qm.j4]) (Ev.pos rfl (Ev.now _))
 have jf : Ev (fun k => qm.j4 k out false) (out, true) := Ev.step (fun k => by rw [qm.j4]) (Ev.neg (by decide) (Ev.now _))
 by_cases h2 : out.length < 2
 ·refine Ev.pos yg (jt.to ?_)
  unfold refEnd
  rw [if_neg]
  omega
 refine Ev.neg yg (Ev.pos yg ?_)
 have e0 : rd out 0 = out.getD 0 0 := rfl
 have e1 : rd out 1 = out.getD 1 0 := rfl
 have hp : 0 ≤ out.getD 0 0 := by
  cases out with
  | nil => simp
  | cons a t => exact h a (List.mem_cons_self ..)
 rw [e0, e1]
 have hro : rootOk out = true ↔ (out.getD 0 0 ≤ 1 ∧ out.getD 1 0 ≤ 39) ∨ out.getD 0 0 = 2 := by
  simp [rootOk]
 by_cases c0 : out.getD 0 0 > 2
 ·refine Ev.pos c0 (jt.to ?_)
  unfold refEnd
  rw [if_neg]
  rw [hro]; omega
 ·refine Ev.neg c0 ?_
  by_cases c1 : out.getD 0 0 < 2
  ·refine Ev.pos c1 (Ev.pos yg ?_)
   by_cases c2 : out.getD 1 0 > 39
   ·simp only [c2, decide_true]
    refine jt.to ?_
    unfold refEnd
    rw [if_neg]
    rw [hro]; omega
   ·simp only [c2, decide_false]
    refine jf.to ?_
    unfold refEnd
    rw [if_pos]
    rw [hro]; omega
  ·refine Ev.neg c1 (jf.to ?_)
   unfold refEnd
   rw [if_pos]
   rw [hro]; omega
theorem arcs_l1 (s : ByteArray) (out : List Int) (x6 : Int) (d : ByteArray) (hd : d.size ≤ 10) (r : List Int × Bool) : ∀ (rest : List UInt8) (i : Nat) (acc : Int), (L d).drop i = rest → digs rest = true → i ≤ d.size → 0 ≤ acc → acc < 10 ^ i →
  (if val acc rest ≤ 2147483647 then Ev (fun k => if out.length < 17592186044416 then qm.l0 k s (out ++ [val acc rest]) (wrap64 (x6 + 1)) (wrap64 (x6 + 1)) else none) r else r = ([], false)) →
  Ev (fun k => qm.l1 k s out x6 d acc i) r
 | [], i, acc, h, hg, hi, h0, h1, hr => by
  have hn := at_nil h
  refine Ev.step (fun k => by rw [qm.l1]) (Ev.neg yg ?_)
  change if acc ≤ 2147483647 then Ev (fun k => if out.length < 17592186044416 then qm.l0 k s (out ++ [acc]) (wrap64 (x6 + 1)) (wrap64 (x6 + 1)) else none) r else r = ([], false) at hr
  by_cases hv : acc > 2147483647
  ·rw [if_neg yg] at hr
   rw [hr]
   exact Ev.pos hv (Ev.now _)
  ·rw [if_pos yg] at hr
   exact Ev.neg hv hr
 | c :: t, i, acc, h, hg, hi, h0, h1, hr => by
  obtain ⟨hl, hb, ht⟩ := at_cons h
  have hp := pow10_le i yg
  have hc := (digs_cons c t).1 hg
  refine Ev.step (fun k => by rw [qm.l1]) (Ev.pos yg (Ev.pos yg ?_))
  rw [hb]
  have e1 : ((c.toNat : Int) - 48) % 256 = (c.toNat : Int) - 48 := by omega
  rw [e1, w64 (by omega : -9223372036854775808 ≤ 10 * acc) yg, w64 (n := 10 * acc + _) yg yg, w64 (n := (i : Int) + 1) yg yg]
  exact arcs_l1 s out x6 d hd r t (i + 1) (10 * acc + ((c.toNat : Int) - 48)) ht hc.2 yg yg (by rw [Int.pow_succ]; omega) hr
theorem arcs_piece (s : ByteArray) (hs : s.size < 4294967281) (out : List Int) (a i : Nat) (cur : List UInt8) (r : List Int × Bool) (ha : a ≤ i) (hi : i ≤ s.size) (ho : out.length ≤ 12)
  (hcur : ((L s).drop a).take (i - a) = cur) (hd : digs cur = true)
  (hr : if okArc cur = true ∧ out.length ≠ 12 then Ev (fun k => qm.l0 k s (out ++ [val 0 cur]) ((i + 1 : Nat) : Int) ((i + 1 : Nat) : Int)) r else r = ([], false)) :
  Ev (fun k => qm.j1 k s out a i false) r := by
 refine Ev.step (fun k => by rw [qm.j1]) (Ev.neg (by decide) (Ev.pos yg (Ev.pos yg (Ev.pos yg ?_))))
 have hLd : L (s.extract (a : Int).toNat (i : Int).toNat) = cur := by rw [L_extract]; exact hcur
 have hsz : (s.extract (a : Int).toNat (i : Int).toNat).size = cur.length := by rw [size_L, hLd]
 generalize hD : s.extract (a : Int).toNat (i : Int).toNat = D at hLd hsz
 rw [hsz]
 have jt : ¬ (okArc cur = true ∧ out.length ≠ 12) → Ev (fun k => qm.j2 k s out i D true) r := by
  intro hn
  rw [if_neg hn] at hr
  rw [hr]
  exact Ev.step (fun k => by rw [qm.j2]) (Ev.pos rfl (Ev.now _))
 have jf : ¬ cur.length = 0 → cur.length ≤ 10 → ¬ (cur.headD 0 = 48 ∧ 1 < cur.length) → Ev (fun k => qm.j2 k s out i D ((out.length : Int) == 12)) r := by
  intro n0 n10 nh
  by_cases h12 : out.length = 12
  ·rw [h12]
   exact jt yg
  ·have e : ((out.length : Int) == 12) = false := by rw [beq_eq_false_iff_ne]; omega
   rw [e]
   refine Ev.step (fun k => by rw [qm.j2]) (Ev.neg (by decide) ?_)
   refine arcs_l1 s out i D yg r cur 0 0 (by rw [hLd]; rfl) hd yg yg (by decide) ?_
   by_cases hv : val 0 cur ≤ 2147483647
   ·rw [if_pos hv]
    rw [if_pos ⟨(okArc_iff _).2 ⟨n0, n10, nh, hd, hv⟩, h12⟩] at hr
    refine Ev.pos yg ?_
    rw [w64 (n := (i : Int) + 1) yg yg]
    exact hr
   ·rw [if_neg hv]
    rw [if_neg] at hr
    ·exact hr
    ·rintro ⟨h, _⟩
     exact hv ((okArc_iff _).1 h).2.2.2.2
 by_cases h0 : cur.length = 0
 ·exact Ev.pos yg (jt (by rw [okArc_iff]; omega))
 refine Ev.neg yg ?_
 by_cases h10 : 10 < cur.length
 ·exact Ev.pos yg (jt (by rw [okArc_iff]; omega))
 refine Ev.neg yg ?_
 obtain ⟨c, t, hct⟩ : ∃ c t, cur = c :: t := by
  cases cur with
  | nil => exact absurd rfl h0
  | cons c t => exact ⟨c, t, rfl⟩
 have hb : bt D 0 = c.toNat := (at_cons (s := D) (i := 0) (by rw [hLd, hct]; rfl)).2.1
 by_cases h1 : 1 < cur.length
 ·refine Ev.pos yg (Ev.pos yg ?_)
  rw [hb]
  by_cases hc : (c.toNat : Int) = 48
  ·have : c = 48 := UInt8.toNat_inj.1 (by simpa using (by omega : c.toNat = 48))
   refine Ev.pos hc (jt ?_)
   rintro ⟨h, _⟩
   exact ((okArc_iff _).1 h).2.2.1 ⟨by rw [hct]; exact this, h1⟩
  ·refine Ev.neg hc (jf h0 yg ?_)
   rintro ⟨h, _⟩
   rw [hct] at h
   have h' : c = 48 := h
   rw [h'] at hc
   exact hc rfl
 ·exact Ev.neg yg (jf h0 yg yg)
theorem okArc_digs {l : List UInt8} (h : okArc l = true) : digs l = true := ((okArc_iff l).1 h).2.2.2.1
theorem refFin_cons (out : List Int) (p : List UInt8) (ps : List (List UInt8)) (ho : out.length ≤ 12) :
  refFin out (p :: ps) = if okArc p = true ∧ out.length ≠ 12 then refFin (out ++ [val 0 p]) ps else ([], false) := by
 unfold refFin
 by_cases h : okArc p = true ∧ out.length ≠ 12
 ·rw [if_pos h]
  simp only [List.all_cons, h.1, Bool.true_and, List.length_append, List.length_cons, List.length_nil, List.map_cons, List.append_assoc, List.singleton_append]
  have e : (out.length + (ps.length + 1) ≤ 12) ↔ (out.length + (0 + 1) + ps.length ≤ 12) := by omega
  simp only [e]
 ·rw [if_neg h, if_neg]
  rintro ⟨h1, h2⟩
  simp only [List.all_cons, Bool.and_eq_true, List.length_cons] at h1 h2
  exact h ⟨h1.1, by omega⟩
theorem arcs_l0 (s : ByteArray) (hs : s.size < 4294967281) : ∀ (rest : List UInt8) (i a : Nat) (out : List Int) (cur : List UInt8), (L s).drop i = rest → a ≤ i → i ≤ s.size → out.length ≤ 12 → (∀ x ∈ out, (0 : Int) ≤ x) →
  ((L s).drop a).take (i - a) = cur → digs cur = true → Ev (fun k => qm.l0 k s out a i) (refFin out ((cur ++ (pieces 46 rest).headD []) :: (pieces 46 rest).tail))
 | [], i, a, out, cur, h, ha, hi, ho, hp, hcur, hd => by
  have hn := at_nil h
  refine Ev.step (fun k => by rw [qm.l0]) (Ev.pos yg (Ev.neg yg ?_))
  refine arcs_piece s hs out a i cur _ ha hi ho hcur hd ?_
  have ep : cur ++ (pieces 46 []).headD [] = cur := by simp [pieces]
  rw [ep, refFin_cons out cur _ ho]
  by_cases hc : okArc cur = true ∧ out.length ≠ 12
  ·rw [if_pos hc, if_pos hc]
   have hv := val_bounds cur 0 hd yg
   refine Ev.step (fun k => by rw [qm.l0]) (Ev.neg yg ?_)
   refine (arcs_end (out ++ [val 0 cur]) ?_).to ?_
   ·intro x hx
    rcases List.mem_append.1 hx with hx | hx
    ·exact hp x hx
    ·rw [List.mem_singleton.1 hx]; exact hv
   ·unfold refFin
    rw [if_pos ⟨rfl, by simp [pieces]; omega⟩]
    simp [pieces]
  ·rw [if_neg hc, if_neg hc]
 | c :: t, i, a, out, cur, h, ha, hi, ho, hp, hcur, hd => by
  obtain ⟨hl, hb, ht⟩ := at_cons h
  refine Ev.step (fun k => by rw [qm.l0]) (Ev.pos yg (Ev.pos yg (Ev.pos yg ?_)))
  rw [hb]
  by_cases hc : c = 46
  ·subst hc
   have e : (((46 : UInt8).toNat : Int) != 46) = false := rfl
   rw [e]
   refine arcs_piece s hs out a i cur _ ha hi ho hcur hd ?_
   have ep : pieces 46 (46 :: t) = [] :: pieces 46 t := by rw [pieces, if_pos rfl]
   rw [ep]
   have e2 : cur ++ ([] :: pieces 46 t).headD [] = cur := by simp
   rw [e2, refFin_cons out cur _ ho]
   by_cases hk : okArc cur = true ∧ out.length ≠ 12
   ·rw [if_pos hk, if_pos hk]
    have hv := val_bounds cur 0 hd yg
    have ih := arcs_l0 s hs t (i + 1) (i + 1) (out ++ [val 0 cur]) [] ht yg yg (by simp; omega) (by
     intro x hx
     rcases List.mem_append.1 hx with hx | hx
     ·exact hp x hx
     ·rw [List.mem_singleton.1 hx]; exact hv) yt rfl
    refine ih.to ?_
    rw [List.nil_append, pieces_eta]
    rfl
   ·rw [if_neg hk, if_neg hk]
  ·have hc' : ¬ (c.toNat : Int) = 46 := fun e => hc (UInt8.toNat_inj.1 (by simpa using (by omega : c.toNat = 46)))
   have e : ((c.toNat : Int) != 46) = true := by rw [bne_iff_ne]; exact hc'
   rw [e]
   have ep : pieces 46 (c :: t) = (c :: (pieces 46 t).headD []) :: (pieces 46 t).tail := by rw [pieces, if_neg hc]
   rw [ep]
   refine Ev.step (fun k => by rw [qm.j1]) (Ev.pos rfl (Ev.pos yg (Ev.pos yg ?_)))
   rw [hb]
   have bad : ¬ (48 ≤ c.toNat ∧ c.toNat ≤ 57) → ([], false) = refFin out ((cur ++ ((c :: (pieces 46 t).headD []) :: (pieces 46 t).tail).headD []) :: ((c :: (pieces 46 t).headD []) :: (pieces 46 t).tail).tail) := by
    intro hb
    rw [refFin_cons out _ _ ho, if_neg]
    rintro ⟨h, _⟩
    have h := okArc_digs h
    rw [digs_append] at h
    exact hb ((digs_cons c _).1 h.2).1
   by_cases h1 : (c.toNat : Int) < 48
   ·exact Ev.pos h1 ((Ev.now _).to (bad yg))
   refine Ev.neg h1 ?_
   by_cases h2 : (c.toNat : Int) > 57
   ·exact Ev.pos h2 ((Ev.now _).to (bad yg))
   refine Ev.neg h2 ?_
   rw [w64 (n := (i : Int) + 1) yg yg]
   have hcur' : ((L s).drop a).take (i + 1 - a) = cur ++ [c] := by
    have e3 : i + 1 - a = (i - a) + 1 := by omega
    rw [e3, List.take_add_one, hcur]
    have : ((L s).drop a)[i - a]? = some c := by
     rw [List.getElem?_drop, show a + (i - a) = i by omega]
     have := congrArg (fun l => l[0]?) h
     simpa [List.getElem?_drop] using this
    rw [this]; rfl
   have ih := arcs_l0 s hs t (i + 1) a out (cur ++ [c]) ht yg yg ho hp hcur' (by
    rw [digs_append]
    exact ⟨hd, (digs_cons c []).2 ⟨by omega, rfl⟩⟩)
   refine ih.to ?_
   simp
theorem ValidOID_f (s : ByteArray) (h : s.size < 4294967281) : Ev (fun k => zj.f k s) (okOid (L s)) := by
 unfold zj.f
 refine Ev.bind (f := fun _ l => some l.2) (show Ev (fun k => qm.f k s) _ from arcs_l0 s h (L s) 0 0 [] [] rfl yg yg yt yt yt rfl) ((Ev.now _).to ?_)
 rw [List.nil_append, pieces_eta]
 unfold refFin refEnd okOid
 simp only [List.length_nil, Nat.zero_add, List.nil_append, List.length_map]
 by_cases h1 : (pieces 46 (L s)).all okArc = true <;> by_cases h2 : (pieces 46 (L s)).length ≤ 12 <;> by_cases h3 : 2 ≤ (pieces 46 (L s)).length <;> by_cases h4 : rootOk ((pieces 46 (L s)).map (val 0)) = true <;> simp [h1, h2, h3, h4]
end Go.Proofs.YthdoohfdminfgaaGreatDoor.Pl
end
section
namespace Go.Proofs.YthdoohfdminfgaaGreatDoor.Pl
open Go.RowKit Go.Proofs.YthdoohfdminfgaaGreatDoorW.PrintWords Go.Proofs.YthdoohfdminfgaaGreatDoor.C
set_option linter.unusedSimpArgs false
set_option linter.unusedVariables false
theorem get_bt (s : ByteArray) (i : Nat) (h : i < s.size) : ((s.get! i).toNat : Int) = bt s i := by
 unfold bt
 rw [dif_pos (show (i : Int).toNat < s.size from h)]
 have : s.get! i = s[i] := by
  cases s
  rename_i d
  simp only [ByteArray.get!]
  exact getElem!_pos d i h
 rw [this]
 rfl
theorem lt_of_bt (s : ByteArray) (i : Nat) (h : i < s.size) : ∃ b : Nat, b < 256 ∧ (s.get! i).toNat = b ∧ bt s i = b :=
 ⟨(s.get! i).toNat, UInt8.toNat_lt _, rfl, (get_bt s i h).symm⟩
theorem l1_more (s : ByteArray) (pos n least v : Int) (j b : Nat) (r : Bool) (hb : bt s (pos + j) = b) (h0 : 0 ≤ pos) (hn : n ≤ 3) (hj : (j : Int) ≤ n) (hl : pos + j < s.size) (hs : s.size < 4294967281) (hc : b / 64 = 2) (hv0 : 0 ≤ v) (hv : v < 100000000)
  (h : Ev (fun k => qh.l1 k s pos n least (64 * v + (b % 64 : Nat)) ((j + 1 : Nat) : Int)) r) : Ev (fun k => qh.l1 k s pos n least v j) r := by
 have e1 : wrap64 (pos + j) = pos + j := w64 yg yg
 refine Ev.step (fun k => by rw [qh.l1]) (Ev.pos hj (Ev.pos yg (Ev.pos yg (Ev.pos ?_ ?_))))
 ·rw [e1, hb, Int.tdiv_eq_ediv_of_nonneg yg]
  omega
 ·rw [e1, hb]
  have e2 : Int.tmod (b : Int) 64 = ((b % 64 : Nat) : Int) := by
   rw [Int.tmod_eq_emod_of_nonneg yg]; omega
  rw [e2, w64 (n := 64 * v) yg yg, w64 (n := ((b % 64 : Nat) : Int)) yg yg, w64 (n := 64 * v + _) yg yg, w64 (n := (j : Int) + 1) yg yg]
  exact h
theorem l1_bad (s : ByteArray) (pos n least v : Int) (j b : Nat) (hb : bt s (pos + j) = b) (h0 : 0 ≤ pos) (hn : n ≤ 3) (hj : (j : Int) ≤ n) (hl : pos + j < s.size) (hs : s.size < 4294967281) (h256 : b < 256) (hc : ¬ b / 64 = 2) :
  Ev (fun k => qh.l1 k s pos n least v j) false := by
 have e1 : wrap64 (pos + j) = pos + j := w64 yg yg
 refine Ev.step (fun k => by rw [qh.l1]) (Ev.pos hj (Ev.pos yg (Ev.pos yg (Ev.neg ?_ (Ev.now _)))))
 rw [e1, hb, Int.tdiv_eq_ediv_of_nonneg yg]
 omega
theorem l1_end (s : ByteArray) (pos n least v : Int) (j : Nat) (r : Bool) (hj : (j : Int) = n + 1) (h0 : 0 ≤ pos) (hn0 : 0 ≤ n) (hn : n ≤ 3) (hl : pos ≤ s.size) (hs : s.size < 4294967281) (h : Ev (fun k => qh.l0 k s (pos + (n + 1))) r) :
  Ev (fun k => qh.l1 k s pos n least v j) (if v < least ∨ 1114111 < v ∨ (55296 ≤ v ∧ v < 57344) then false else r) := by
 have jt : Ev (fun k => qh.j6 k s pos n true) false := Ev.step (fun k => by rw [qh.j6]) (Ev.pos rfl (Ev.now _))
 have jf : Ev (fun k => qh.j6 k s pos n false) r := Ev.step (fun k => by rw [qh.j6]) (Ev.neg (by decide) (by
  rw [w64 (n := n + 1) yg yg, w64 (n := pos + (n + 1)) yg yg]; exact h))
 refine Ev.step (fun k => by rw [qh.l1]) (Ev.neg yg ?_)
 by_cases c1 : v < least
 ·exact Ev.pos c1 (jt.to (by rw [if_pos (Or.inl c1)]))
 refine Ev.neg c1 ?_
 by_cases c2 : v > 1114111
 ·exact Ev.pos c2 (jt.to (by rw [if_pos (Or.inr (Or.inl c2))]))
 refine Ev.neg c2 ?_
 by_cases c3 : v ≥ 55296
 ·refine Ev.pos c3 ?_
  by_cases c4 : v < 57344
  ·rw [show decide (v < 57344) = true from decide_eq_true c4]
   exact jt.to (by rw [if_pos (Or.inr (Or.inr ⟨c3, c4⟩))])
  ·rw [show decide (v < 57344) = false from decide_eq_false c4]
   exact jf.to (by rw [if_neg yg])
 ·exact Ev.neg c3 (jf.to (by rw [if_neg yg]))
theorem mask1 : ∀ n : Nat, n < 256 → Go.bits .and .i64 (wrap64 (n : Int)) (wrap64 ((shl .i64 1 (wrap64 (6 - 1))) - 1)) = ((n % 32 : Nat) : Int) := by decide +kernel
theorem mask2 : ∀ n : Nat, n < 256 → Go.bits .and .i64 (wrap64 (n : Int)) (wrap64 ((shl .i64 1 (wrap64 (6 - 2))) - 1)) = ((n % 16 : Nat) : Int) := by decide +kernel
theorem mask3 : ∀ n : Nat, n < 256 → Go.bits .and .i64 (wrap64 (n : Int)) (wrap64 ((shl .i64 1 (wrap64 (6 - 3))) - 1)) = ((n % 8 : Nat) : Int) := by decide +kernel
theorem dec_pref (s : ByteArray) (pos : Nat) (r : List UInt8) (h : (L s).drop pos = 239 :: 191 :: 189 :: r) : Utf8.decode s pos = (65533, 3) := by
 obtain ⟨l0, b0, h1⟩ := at_cons h
 obtain ⟨l1, b1, h2⟩ := at_cons h1
 obtain ⟨l2, b2, h3⟩ := at_cons h2
 have g0 : (s.get! (pos + 0)).toNat = 239 := by have := get_bt s pos l0; rw [b0] at this; exact Int.ofNat_inj.1 this
 have g1 : (s.get! (pos + 1)).toNat = 191 := by have := get_bt s (pos + 1) l1; rw [b1] at this; exact Int.ofNat_inj.1 this
 have g2 : (s.get! (pos + 2)).toNat = 189 := by have := get_bt s (pos + 1 + 1) l2; rw [b2] at this; exact Int.ofNat_inj.1 this
 unfold Utf8.decode
 simp only [g0, g1, g2, l1, show pos + 2 < s.size from l2]
 rfl
theorem pref_drop (s : ByteArray) (pos : Nat) (h : Lib.hasPrefix (s.extract pos s.size).data.toList [239, 191, 189] = true) : ∃ r, (L s).drop pos = 239 :: 191 :: 189 :: r := by
 have e : (s.extract pos s.size).data.toList = (L s).drop pos := by
  have := L_extract s pos s.size
  rw [List.take_of_length_le (by rw [List.length_drop, ← size_L]; exact Nat.le_refl _)] at this
  exact this
 rw [e] at h
 obtain ⟨r, hr⟩ := List.isPrefixOf_iff_prefix.1 h
 exact ⟨r, hr.symm⟩
theorem utf_bad (s : ByteArray) (n pos : Nat) (hp : pos < s.size) (h : Utf8.decode s pos = (65533, 1)) : xm s (n + 1) pos = false := by
 unfold xm
 rw [if_pos hp, h]
 have hf : Lib.hasPrefix (s.extract pos s.size).data.toList [239, 191, 189] = false := by
  cases hc : Lib.hasPrefix (s.extract pos s.size).data.toList [239, 191, 189] with
  | false => rfl
  | true =>
   obtain ⟨r, hr⟩ := pref_drop s pos hc
   rw [dec_pref s pos r hr] at h
   cases h
 rw [if_neg (by simp only; omega), if_pos ⟨rfl, hf⟩]
theorem utf_good (s : ByteArray) (n pos c w : Nat) (hp : pos < s.size) (h : Utf8.decode s pos = (c, w)) (h1 : 32 ≤ c) (h2 : c ≠ 127) (h3 : c = 65533 → ∃ r, (L s).drop pos = 239 :: 191 :: 189 :: r) : xm s (n + 1) pos = xm s n (pos + w) := by
 conv => lhs; unfold xm
 rw [if_pos hp, h]
 rw [if_neg (by simp only; omega)]
 rw [if_neg]
 rintro ⟨hc, hf⟩
 obtain ⟨r, hr⟩ := h3 hc
 have e : (s.extract pos s.size).data.toList = (L s).drop pos := by
  have := L_extract s pos s.size
  rw [List.take_of_length_le (by rw [List.length_drop, ← size_L]; exact Nat.le_refl _)] at this
  exact this
 rw [e, hr] at hf
 simp [Lib.hasPrefix, List.isPrefixOf] at hf
theorem utf_l0 (s : ByteArray) (hs : s.size < 4294967281) : ∀ (n pos : Nat), s.size - pos ≤ n → pos ≤ s.size → Ev (fun k => qh.l0 k s pos) (xm s n pos) := by
 intro n
 induction n using Nat.strongRecOn with
 | _ n IH =>
 intro pos hn hpos
 rcases Nat.lt_or_ge pos s.size with hp | hp
 case inr =>
  refine Ev.step (fun k => by rw [qh.l0]) (Ev.neg yg ((Ev.now _).to ?_))
  cases n with
  | zero => rfl
  | succ n => unfold xm; rw [if_neg yg]
 obtain ⟨n, rfl⟩ : ∃ m, n = m + 1 := ⟨n - 1, by omega⟩
 obtain ⟨b0, hb0, g0, e0⟩ := lt_of_bt s pos hp
 have IH' : ∀ w, 0 < w → pos + w ≤ s.size → Ev (fun k => qh.l0 k s ((pos : Int) + (w : Nat))) (xm s n (pos + w)) := fun w hw hl => by
  have := IH n yg (pos + w) yg hl
  rw [Int.natCast_add] at this
  exact this
 refine Ev.step (fun k => by rw [qh.l0]) (Ev.pos yg (Ev.pos yg ?_))
 rw [e0]
 have j1t : Ev (fun k => qh.j1 k s pos b0 true) false := Ev.step (fun k => by rw [qh.j1]) (Ev.pos rfl (Ev.now _))
 by_cases c0 : b0 < 32
 ·refine Ev.pos yg (j1t.to ?_)
  unfold xm
  rw [if_pos hp]
  have hd : Utf8.decode s pos = (b0, 1) := by
   unfold Utf8.decode
   simp only [Nat.add_zero, g0]
   rw [if_pos yg]
  rw [hd, if_pos (Or.inl c0)]
 refine Ev.neg yg ?_
 by_cases c1 : b0 = 127
 ·have e : ((b0 : Int) == 127) = true := by rw [beq_iff_eq]; omega
  rw [e]
  refine j1t.to ?_
  unfold xm
  rw [if_pos hp]
  have hd : Utf8.decode s pos = (b0, 1) := by
   unfold Utf8.decode
   simp only [Nat.add_zero, g0]
   rw [if_pos yg]
  rw [hd, if_pos (Or.inr c1)]
 have e : ((b0 : Int) == 127) = false := by rw [beq_eq_false_iff_ne]; omega
 rw [e]
 refine Ev.step (fun k => by rw [qh.j1]) (Ev.neg (by decide) ?_)
 by_cases c2 : b0 < 128
 ·refine Ev.pos yg ?_
  have hd : Utf8.decode s pos = (b0, 1) := by
   unfold Utf8.decode
   simp only [Nat.add_zero, g0]
   rw [if_pos yg]
  rw [w64 (n := (pos : Int) + 1) yg yg]
  refine (IH' 1 yg yg).to ?_
  rw [utf_good s n pos b0 1 hp hd yg yg yg]
 refine Ev.neg yg ?_
 have bad : Utf8.decode s pos = (65533, 1) → false = xm s (n + 1) pos := fun h => (utf_bad s n pos hp h).symm
 by_cases c3 : b0 < 192
 ·refine Ev.neg yg (Ev.step (fun k => by rw [qh.j2]) (Ev.neg (by decide) (Ev.neg yg (Ev.step (fun k => by rw [qh.j3]) (Ev.neg (by decide) (Ev.neg yg ((Ev.now _).to (bad ?_))))))))
  unfold Utf8.decode
  simp only [Nat.add_zero, g0]
  rw [if_neg yg, if_neg (by simp only [Bool.and_eq_true, beq_iff_eq]; omega), if_neg (by simp only [Bool.and_eq_true, beq_iff_eq]; omega), if_neg (by simp only [Bool.and_eq_true, beq_iff_eq]; omega)]
  rfl
 refine Ev.pos yg (Ev.step (fun k => by rw [qh.j2]) ?_)
 have cnt : ∀ j, (decide (pos + j < s.size) && (s.get! (pos + j)).toNat / 64 == 2) = true ↔ pos + j < s.size ∧ (s.get! (pos + j)).toNat / 64 = 2 := fun j => by simp only [Bool.and_eq_true, decide_eq_true_eq, beq_iff_eq]
 by_cases c4 : b0 < 224
 ·refine Ev.pos (by simpa using (by omega : (b0 : Int) < 224)) (Ev.step (fun k => by rw [qh.j4]) ?_)
  rw [w64 (n := (s.size : Int) - pos) yg yg]
  by_cases z1 : pos + 1 < s.size
  case neg =>
   refine Ev.pos yg ((Ev.now _).to (bad ?_))
   unfold Utf8.decode
   simp only [Nat.add_zero, g0, z1, decide_false, Bool.false_and, Bool.and_false, Bool.false_eq_true, if_false]
   rw [if_neg yg]
   rfl
  refine Ev.neg yg (Ev.pos (by decide +kernel) ?_)
  rw [mask1 b0 hb0]
  obtain ⟨b1, hb1, g1, e1⟩ := lt_of_bt s (pos + 1) z1
  by_cases k1 : b1 / 64 = 2
  case neg =>
   refine (l1_bad s pos 1 128 _ 1 b1 e1 yg yg yg yg hs hb1 k1).to (bad ?_)
   unfold Utf8.decode
   have : (b1 / 64 == 2) = false := by rw [beq_eq_false_iff_ne]; exact k1
   simp only [Nat.add_zero, g0, g1, this, Bool.false_and, Bool.and_false, Bool.false_eq_true, if_false]
   rw [if_neg yg]
   rfl
  refine l1_more s pos 1 128 _ 1 b1 _ e1 yg yg yg yg hs k1 yg yg ?_
  refine (l1_end s pos 1 128 _ 2 _ yg yg yg yg yg hs (IH' 2 yg yg)).to ?_
  by_cases q : b0 % 32 * 64 + b1 % 64 ≥ 128
  ·rw [if_neg yg]
   refine (utf_good s n pos (b0 % 32 * 64 + b1 % 64) 2 hp ?_ yg yg yg).symm
   unfold Utf8.decode
   simp only [Nat.add_zero, g0, g1, z1, k1, decide_true, BEq.rfl, Bool.and_true]
   rw [if_neg yg, if_pos (by rw [beq_iff_eq]; omega), if_pos yg]
  ·rw [if_pos yg]
   refine bad ?_
   unfold Utf8.decode
   simp only [Nat.add_zero, g0, g1, z1, k1, decide_true, BEq.rfl, Bool.and_true]
   rw [if_neg yg, if_pos (by rw [beq_iff_eq]; omega), if_neg yg]
   rfl
 refine Ev.neg (by simpa using (by omega : ¬ (b0 : Int) < 224)) (Ev.pos yg (Ev.step (fun k => by rw [qh.j3]) ?_))
 by_cases c5 : b0 < 240
 ·refine Ev.pos (by simpa using (by omega : (b0 : Int) < 240)) (Ev.step (fun k => by rw [qh.j4]) ?_)
  rw [w64 (n := (s.size : Int) - pos) yg yg]
  have n6 : (b0 / 32 == 6) = false := by rw [beq_eq_false_iff_ne]; omega
  by_cases z2 : pos + 2 < s.size
  case neg =>
   refine Ev.pos yg ((Ev.now _).to (bad ?_))
   unfold Utf8.decode
   simp only [Nat.add_zero, g0, n6, z2, decide_false, Bool.false_and, Bool.and_false, Bool.false_eq_true, if_false]
   rw [if_neg yg]
   rfl
  have z1 : pos + 1 < s.size := by omega
  refine Ev.neg yg (Ev.pos (by decide +kernel) ?_)
  rw [mask2 b0 hb0]
  obtain ⟨b1, hb1, g1, e1⟩ := lt_of_bt s (pos + 1) z1
  obtain ⟨b2, hb2, g2, e2⟩ := lt_of_bt s (pos + 2) z2
  by_cases k1 : b1 / 64 = 2
  case neg =>
   refine (l1_bad s pos 2 2048 _ 1 b1 e1 yg yg yg yg hs hb1 k1).to (bad ?_)
   unfold Utf8.decode
   have : (b1 / 64 == 2) = false := by rw [beq_eq_false_iff_ne]; exact k1
   simp only [Nat.add_zero, g0, g1, this, Bool.false_and, Bool.and_false, Bool.false_eq_true, if_false]
   rw [if_neg yg]
   rfl
  refine l1_more s pos 2 2048 _ 1 b1 _ e1 yg yg yg yg hs k1 yg yg ?_
  by_cases k2 : b2 / 64 = 2
  case neg =>
   refine (l1_bad s pos 2 2048 _ 2 b2 e2 yg yg yg yg hs hb2 k2).to (bad ?_)
   unfold Utf8.decode
   have : (b2 / 64 == 2) = false := by rw [beq_eq_false_iff_ne]; exact k2
   simp only [Nat.add_zero, g0, g1, g2, n6, this, Bool.false_and, Bool.and_false, Bool.false_eq_true, if_false]
   rw [if_neg yg]
   rfl
  refine l1_more s pos 2 2048 _ 2 b2 _ e2 yg yg yg yg hs k2 yg yg ?_
  refine (l1_end s pos 2 2048 _ 3 _ yg yg yg yg yg hs (IH' 3 yg yg)).to ?_
  have n14 : b0 / 16 = 14 := by omega
  have vd : Utf8.valid ((b0 % 16 * 4096 + b1 % 64 * 64 + b2 % 64 : Nat) : Int) = true ↔ ¬ (55296 ≤ b0 % 16 * 4096 + b1 % 64 * 64 + b2 % 64 ∧ b0 % 16 * 4096 + b1 % 64 * 64 + b2 % 64 < 57344) := by
   unfold Utf8.valid
   simp only [Bool.or_eq_true, Bool.and_eq_true, decide_eq_true_eq]
   omega
  by_cases q : b0 % 16 * 4096 + b1 % 64 * 64 + b2 % 64 ≥ 2048 ∧ ¬ (55296 ≤ b0 % 16 * 4096 + b1 % 64 * 64 + b2 % 64 ∧ b0 % 16 * 4096 + b1 % 64 * 64 + b2 % 64 < 57344)
  ·rw [if_neg yg]
   refine (utf_good s n pos (b0 % 16 * 4096 + b1 % 64 * 64 + b2 % 64) 3 hp ?_ yg yg ?_).symm
   ·unfold Utf8.decode
    simp only [Nat.add_zero, g0, g1, g2, z1, z2, k1, k2, n6, n14, decide_true, BEq.rfl, Bool.and_true, Bool.false_and, Bool.false_eq_true, if_false, Bool.true_and, if_true]
    rw [if_neg yg, if_pos (by rw [vd.2 q.2, Bool.and_true, decide_eq_true_eq]; exact q.1)]
   ·intro hq
    have x0 : b0 = 239 := by omega
    have x1 : b1 = 191 := by omega
    have x2 : b2 = 189 := by omega
    obtain ⟨u0, v0, y0⟩ := at_some hp
    obtain ⟨u1, v1, y1⟩ := at_some z1
    obtain ⟨u2, v2, y2⟩ := at_some z2
    have t0 : u0 = 239 := UInt8.toNat_inj.1 (by have : (u0.toNat : Int) = b0 := y0.symm.trans e0; rw [x0] at this; exact Int.ofNat_inj.1 this)
    have t1 : u1 = 191 := UInt8.toNat_inj.1 (by have : (u1.toNat : Int) = b1 := y1.symm.trans e1; rw [x1] at this; exact Int.ofNat_inj.1 this)
    have t2 : u2 = 189 := UInt8.toNat_inj.1 (by have : (u2.toNat : Int) = b2 := y2.symm.trans e2; rw [x2] at this; exact Int.ofNat_inj.1 this)
    refine ⟨(L s).drop (pos + 2 + 1), ?_⟩
    rw [v0, v1, v2, t0, t1, t2]
  ·rw [if_pos yg]
   refine bad ?_
   unfold Utf8.decode
   simp only [Nat.add_zero, g0, g1, g2, z1, z2, k1, k2, n6, n14, decide_true, BEq.rfl, Bool.and_true, Bool.false_and, Bool.false_eq_true, if_false, Bool.true_and, if_true]
   rw [if_neg yg, if_neg (by rw [Bool.and_eq_true, decide_eq_true_eq, vd]; omega)]
   rfl
 refine Ev.neg (by simpa using (by omega : ¬ (b0 : Int) < 240)) (Ev.pos yg ?_)
 have n6 : (b0 / 32 == 6) = false := by rw [beq_eq_false_iff_ne]; omega
 have n14 : (b0 / 16 == 14) = false := by rw [beq_eq_false_iff_ne]; omega
 by_cases c6 : b0 < 248
 case neg =>
  refine Ev.neg yg ((Ev.now _).to (bad ?_))
  have n30 : (b0 / 8 == 30) = false := by rw [beq_eq_false_iff_ne]; omega
  unfold Utf8.decode
  simp only [Nat.add_zero, g0, n6, n14, n30, Bool.false_and, Bool.and_false, Bool.false_eq_true, if_false]
  rw [if_neg yg]
  rfl
 refine Ev.pos yg (Ev.step (fun k => by rw [qh.j4]) ?_)
 rw [w64 (n := (s.size : Int) - pos) yg yg]
 by_cases z3 : pos + 3 < s.size
 case neg =>
  refine Ev.pos yg ((Ev.now _).to (bad ?_))
  unfold Utf8.decode
  simp only [Nat.add_zero, g0, n6, n14, z3, decide_false, Bool.false_and, Bool.and_false, Bool.false_eq_true, if_false]
  rw [if_neg yg]
  rfl
 have z1 : pos + 1 < s.size := by omega
 have z2 : pos + 2 < s.size := by omega
 refine Ev.neg yg (Ev.pos (by decide +kernel) ?_)
 rw [mask3 b0 hb0]
 obtain ⟨b1, hb1, g1, e1⟩ := lt_of_bt s (pos + 1) z1
 obtain ⟨b2, hb2, g2, e2⟩ := lt_of_bt s (pos + 2) z2
 obtain ⟨b3, hb3, g3, e3⟩ := lt_of_bt s (pos + 3) z3
 by_cases k1 : b1 / 64 = 2
 case neg =>
  refine (l1_bad s pos 3 65536 _ 1 b1 e1 yg yg yg yg hs hb1 k1).to (bad ?_)
  unfold Utf8.decode
  have : (b1 / 64 == 2) = false := by rw [beq_eq_false_iff_ne]; exact k1
  simp only [Nat.add_zero, g0, g1, n6, n14, this, Bool.false_and, Bool.and_false, Bool.false_eq_true, if_false]
  rw [if_neg yg]
  rfl
 refine l1_more s pos 3 65536 _ 1 b1 _ e1 yg yg yg yg hs k1 yg yg ?_
 by_cases k2 : b2 / 64 = 2
 case neg =>
  refine (l1_bad s pos 3 65536 _ 2 b2 e2 yg yg yg yg hs hb2 k2).to (bad ?_)
  unfold Utf8.decode
  have : (b2 / 64 == 2) = false := by rw [beq_eq_false_iff_ne]; exact k2
  simp only [Nat.add_zero, g0, g1, g2, n6, n14, this, Bool.false_and, Bool.and_false, Bool.false_eq_true, if_false]
  rw [if_neg yg]
  rfl
 refine l1_more s pos 3 65536 _ 2 b2 _ e2 yg yg yg yg hs k2 yg yg ?_
 by_cases k3 : b3 / 64 = 2
 case neg =>
  refine (l1_bad s pos 3 65536 _ 3 b3 e3 yg yg yg yg hs hb3 k3).to (bad ?_)
  unfold Utf8.decode
  have : (b3 / 64 == 2) = false := by rw [beq_eq_false_iff_ne]; exact k3
  simp only [Nat.add_zero, g0, g1, g2, g3, n6, n14, this, Bool.false_and, Bool.and_false, Bool.false_eq_true, if_false]
  rw [if_neg yg]
  rfl
 refine l1_more s pos 3 65536 _ 3 b3 _ e3 yg yg yg yg hs k3 yg yg ?_
 refine (l1_end s pos 3 65536 _ 4 _ yg yg yg yg yg hs (IH' 4 yg yg)).to ?_
 have n30 : b0 / 8 = 30 := by omega
 have vd : Utf8.valid ((b0 % 8 * 262144 + b1 % 64 * 4096 + b2 % 64 * 64 + b3 % 64 : Nat) : Int) = true ↔ b0 % 8 * 262144 + b1 % 64 * 4096 + b2 % 64 * 64 + b3 % 64 ≤ 1114111 ∧ ¬ (55296 ≤ b0 % 8 * 262144 + b1 % 64 * 4096 + b2 % 64 * 64 + b3 % 64 ∧ b0 % 8 * 262144 + b1 % 64 * 4096 + b2 % 64 * 64 + b3 % 64 < 57344) := by
  unfold Utf8.valid
  simp only [Bool.or_eq_true, Bool.and_eq_true, decide_eq_true_eq]
  omega
 by_cases q : b0 % 8 * 262144 + b1 % 64 * 4096 + b2 % 64 * 64 + b3 % 64 ≥ 65536 ∧ b0 % 8 * 262144 + b1 % 64 * 4096 + b2 % 64 * 64 + b3 % 64 ≤ 1114111
 ·rw [if_neg yg]
  refine (utf_good s n pos (b0 % 8 * 262144 + b1 % 64 * 4096 + b2 % 64 * 64 + b3 % 64) 4 hp ?_ yg yg yg).symm
  unfold Utf8.decode
  simp only [Nat.add_zero, g0, g1, g2, g3, z1, z2, z3, k1, k2, k3, n6, n14, n30, decide_true, BEq.rfl, Bool.and_true, Bool.false_and, Bool.false_eq_true, if_false, Bool.true_and, if_true]
  rw [if_neg yg, if_pos (by rw [vd.2 yg, Bool.and_true, decide_eq_true_eq]; exact q.1)]
 ·rw [if_pos yg]
  refine bad ?_
  unfold Utf8.decode
  simp only [Nat.add_zero, g0, g1, g2, g3, z1, z2, z3, k1, k2, k3, n6, n14, n30, decide_true, BEq.rfl, Bool.and_true, Bool.false_and, Bool.false_eq_true, if_false, Bool.true_and, if_true]
  rw [if_neg yg, if_neg (by rw [Bool.and_eq_true, decide_eq_true_eq, vd]; omega)]
  rfl
def okText (a0 : Int) (s : ByteArray) : Bool := if a0 = 12 then xm s s.size 0 else if a0 = 19 then (bytesOf s).all text_p1 else if a0 = 22 then (bytesOf s).all text_p2 else false
theorem prn_byte : ∀ n : Nat, n < 256 → (ke.f n = some true ∧ text_p1 n = true) ∨ (ke.f n = some false ∧ zc.f 20 n (⟨#[32, 39, 40, 41, 43, 44, 45, 46, 47, 58, 61, 63]⟩ : ByteArray) = some (text_p1 n)) := by decide +kernel
theorem ia5_byte : ∀ n : Nat, n < 256 → text_p2 n = (decide (32 ≤ n) && decide (n ≤ 126)) := by decide +kernel
theorem prn_l0 (s : ByteArray) (hs : s.size < 4294967281) : ∀ (rest : List UInt8) (i : Nat), (L s).drop i = rest → i ≤ s.size → Ev (fun k => qj.l0 k 19 s i) ((rest.map fun b => (b.toNat : Int)).all text_p1)
 | [], i, h, hi => by
  have hn := at_nil h
  refine Ev.step (fun k => by rw [qj.l0]) ?_
  exact Ev.neg yg (Ev.now _)
 | c :: r, i, h, hi => by
  obtain ⟨hl, hb, hr⟩ := at_cons h
  have ih := prn_l0 s hs r (i + 1) hr yg
  refine Ev.step (fun k => by rw [qj.l0]) (Ev.pos yg (Ev.neg (by decide) (Ev.pos (by decide) (Ev.pos yg ?_))))
  rw [hb]
  have jt : Ev (fun k => qj.j2 k 19 s i true) false := Ev.step (fun k => by rw [qj.j2]) (Ev.pos rfl (Ev.now _))
  have jf : Ev (fun k => qj.j2 k 19 s i false) ((r.map fun b => (b.toNat : Int)).all text_p1) := Ev.step (fun k => by rw [qj.j2]) (Ev.neg (by decide) (by
   rw [w64 (n := (i : Int) + 1) yg yg]; exact ih))
  rcases prn_byte c.toNat c.toNat_lt with ⟨h1, h2⟩ | ⟨h1, h2⟩
  ·refine Ev.bnd h1 (Ev.pos rfl (jf.to ?_))
   simp [h2]
  ·refine Ev.bnd h1 (Ev.neg (by decide) (Ev.bind (Ev.of (fun k => zc.mono _ _ k) h2) ?_))
   cases hp : text_p1 c.toNat with
   | true =>
    refine jf.to ?_
    simp [hp]
   | false =>
    refine jt.to ?_
    simp [hp]
theorem ia5_l0 (s : ByteArray) (hs : s.size < 4294967281) : ∀ (rest : List UInt8) (i : Nat), (L s).drop i = rest → i ≤ s.size → Ev (fun k => qj.l0 k 22 s i) ((rest.map fun b => (b.toNat : Int)).all text_p2)
 | [], i, h, hi => by
  have hn := at_nil h
  refine Ev.step (fun k => by rw [qj.l0]) ?_
  exact Ev.neg yg (Ev.now _)
 | c :: r, i, h, hi => by
  obtain ⟨hl, hb, hr⟩ := at_cons h
  have ih := ia5_l0 s hs r (i + 1) hr yg
  refine Ev.step (fun k => by rw [qj.l0]) (Ev.pos yg (Ev.pos rfl (Ev.pos yg ?_)))
  rw [hb]
  have jt : Ev (fun k => qj.j2 k 22 s i true) false := Ev.step (fun k => by rw [qj.j2]) (Ev.pos rfl (Ev.now _))
  have jf : Ev (fun k => qj.j2 k 22 s i false) ((r.map fun b => (b.toNat : Int)).all text_p2) := Ev.step (fun k => by rw [qj.j2]) (Ev.neg (by decide) (by
   rw [w64 (n := (i : Int) + 1) yg yg]; exact ih))
  have hp := ia5_byte c.toNat c.toNat_lt
  by_cases c1 : c.toNat < 32
  ·refine Ev.pos yg (jt.to ?_)
   have : text_p2 c.toNat = false := by rw [hp]; simp; omega
   simp [this]
  refine Ev.neg yg ?_
  by_cases c2 : 126 < c.toNat
  ·refine Ev.pos yg (jt.to ?_)
   have : text_p2 c.toNat = false := by rw [hp]; simp; omega
   simp [this]
  refine Ev.neg yg (Ev.neg (by decide) (jf.to ?_))
  have : text_p2 c.toNat = true := by rw [hp]; simp; omega
  simp [this]
theorem ValidText_f (a0 : Int) (s : ByteArray) (h : s.size < 4294967281) : Ev (fun k => qj.f k a0 s) (okText a0 s) := by
 unfold qj.f okText
 by_cases h12 : a0 = 12
 ·rw [if_pos h12]
  refine Ev.pos h12 ?_
  refine Ev.bind (f := fun _ t => some t) (show Ev (fun k => qh.f k s) _ from utf_l0 s h s.size 0 yg yg) ?_
  exact Ev.now _
 rw [if_neg h12]
 refine Ev.neg h12 ?_
 by_cases h19 : a0 = 19
 ·subst h19
  rw [if_pos rfl]
  refine Ev.pos rfl (Ev.step (fun k => by rw [qj.j0]) ?_)
  exact Ev.pos rfl (prn_l0 s h (L s) 0 rfl yg)
 rw [if_neg h19]
 refine Ev.neg h19 ?_
 by_cases h22 : a0 = 22
 ·subst h22
  rw [if_pos rfl]
  refine Ev.step (fun k => by rw [qj.j0]) ?_
  exact Ev.pos rfl (ia5_l0 s h (L s) 0 rfl yg)
 ·rw [if_neg h22]
  have e : (a0 == 22) = false := by rw [beq_eq_false_iff_ne]; exact h22
  rw [e]
  refine Ev.step (fun k => by rw [qj.j0]) ?_
  exact Ev.neg (by decide) (Ev.now _)
end Go.Proofs.YthdoohfdminfgaaGreatDoor.Pl
end
section
namespace Go.Proofs.YthdoohfdminfgaaGreatDoor.Pl
open Go.RowKit Go.Proofs.YthdoohfdminfgaaGreatDoorW.PrintWords Go.Proofs.YthdoohfdminfgaaGreatDoor.C
set_option linter.unusedSimpArgs false
set_option linter.unusedVariables false
theorem list_cons {α : Type} {l : List α} {d : α} {i : Nat} {a : α} {r : List α} (h : l.drop i = a :: r) : i < l.length ∧ l.getD i d = a ∧ l.drop (i + 1) = r := by
 have hl : i < l.length := by
  rcases Nat.lt_or_ge i l.length with h' | h'
  ·exact h'
  ·rw [List.drop_eq_nil_of_le h'] at h; cases h
 rw [List.drop_eq_getElem_cons hl] at h
 refine ⟨hl, ?_, (List.cons.inj h).2⟩
 rw [List.getD_eq_getElem?_getD, List.getElem?_eq_getElem hl]
 exact (List.cons.inj h).1
theorem list_nil {α : Type} {l : List α} {i : Nat} (h : l.drop i = []) : l.length ≤ i := List.drop_eq_nil_iff.1 h
theorem rd26 {l : List S40} {i : Nat} {a : S40} {r : List S40} (h : l.drop i = a :: r) : qn l i = a := (list_cons (d := z40) h).2.1
theorem rdL4 {l : List (List S40)} {i : Nat} {a : List S40} {r : List (List S40)} (h : l.drop i = a :: r) : xx l i = a := (list_cons (d := ([] : List S40)) h).2.1
def relFrom (pre : List S40) : List S40 → Int
 | [] => 0
 | a :: r => if okOid (L a.f0) = true then (if L a.f2 = [] ∨ okText a.f1 a.f2 = false then 13 else if 64 < a.f2.size then 2 else if (pre.any fun b => decide (L b.f0 = L a.f0)) = true then 10 else relFrom (pre ++ [a]) r) else 11
def relErr (l : List S40) : Int := if l.length = 0 then 14 else if 4 < l.length then 2 else relFrom [] l
def relsErr : List (List S40) → Int
 | [] => 0
 | l :: r => if relErr l = 0 then relsErr r else relErr l
def nameErr (n : List (List S40)) : Int := if 8 < n.length then 2 else relsErr n
def Fit (l : List S40) : Prop := ∀ a ∈ l, a.f0.size < 4294967281 ∧ a.f2.size < 4294967281
theorem dup_r (l : List S40) (hl : l.length < 1000) (b0 : ByteArray) (b1 : Int) (b2 : ByteArray) (x7 x8 : Int) (m : Nat) (hm : m ≤ l.length) (r : Int) : ∀ (d i : Nat), i + d = m →
  (if (((l.take m).drop i).any fun b => decide (L b.f0 = L b0)) = true then r = 10 else Ev (fun k => qk.l0 k l l x7 (wrap64 (x8 + 1))) r) →
  Ev (fun k => qk.l1 k l m i l x7 x8 b0 b1 b2) r
 | 0, i, h, hr => by
  have e : (l.take m).drop i = [] := List.drop_eq_nil_of_le (by rw [List.length_take]; omega)
  rw [e, if_neg yt] at hr
  refine Ev.step (fun k => by rw [qk.l1]) ?_
  exact Ev.neg yg hr
 | d + 1, i, h, hr => by
  have hil : i < l.length := by omega
  have hit : i < (l.take m).length := by rw [List.length_take]; omega
  have e : (l.take m).drop i = l[i] :: (l.take m).drop (i + 1) := by
   rw [List.drop_eq_getElem_cons hit, List.getElem_take]
  have hd : l.drop i = l[i] :: l.drop (i + 1) := List.drop_eq_getElem_cons hil
  rw [e] at hr
  refine Ev.step (fun k => by rw [qk.l1]) ?_
  rw [rd26 hd]
  refine Ev.pos yg (Ev.pos yg (Ev.pos yg ?_))
  generalize l[i] = a at hr ⊢
  by_cases hc : L a.f0 = L b0
  ·rw [if_pos (by simp [hc])] at hr
   rw [hr]
   exact Ev.pos (by rw [toList_L, toList_L]; exact hc) (Ev.now _)
  ·refine Ev.neg (by rw [toList_L, toList_L]; exact hc) ?_
   rw [w64 (n := (i : Int) + 1) yg yg]
   refine dup_r l hl b0 b1 b2 x7 x8 m hm r d (i + 1) yg ?_
   rw [List.any_cons, decide_eq_false hc, Bool.false_or] at hr
   exact hr
theorem rel_r (l : List S40) (hl : l.length < 1000) (hf : Fit l) : ∀ (rest : List S40) (i : Nat), l.drop i = rest → i ≤ l.length → Ev (fun k => qk.l0 k l l (l.length : Int) i) (relFrom (l.take i) rest)
 | [], i, h, hi => by
  have hn := list_nil h
  refine Ev.step (fun k => by rw [qk.l0]) ?_
  exact Ev.neg yg (Ev.now _)
 | a :: t, i, h, hi => by
  obtain ⟨hli, _, ht⟩ := list_cons (d := z40) h
  have hfa := hf a (List.mem_of_mem_drop (i := i) (by rw [h]; exact List.mem_cons_self ..))
  have jt : ∀ b0 b1 b2, Ev (fun k => qk.j1 k l i l (l.length : Int) i true b0 b1 b2) 13 := fun b0 b1 b2 => by
   refine Ev.step (fun k => by rw [qk.j1]) ?_
   exact Ev.pos rfl (Ev.now _)
  refine Ev.step (fun k => by rw [qk.l0]) ?_
  rw [rd26 h]
  refine Ev.pos yg (Ev.pos yg (Ev.pos yg ?_))
  refine Ev.bind (ValidOID_f a.f0 hfa.1) ?_
  by_cases ho : okOid (L a.f0) = true
  case neg =>
   refine Ev.neg ho ((Ev.now _).to ?_)
   rw [relFrom, if_neg ho]
  refine Ev.pos ho ?_
  rw [relFrom, if_pos ho]
  by_cases he : L a.f2 = []
  ·refine Ev.pos (by rw [size_L, he]; rfl) ((jt _ _ _).to ?_)
   rw [if_pos (Or.inl he)]
  refine Ev.neg (by rw [size_L]; intro h; exact he (List.length_eq_zero_iff.1 yg)) (Ev.bind (ValidText_f a.f1 a.f2 yg) ?_)
  cases hv : okText a.f1 a.f2 with
  | false =>
   refine (jt _ _ _).to ?_
   rw [if_pos (Or.inr rfl)]
  | true =>
   rw [if_neg (by simp [he])]
   refine Ev.step (fun k => by rw [qk.j1]) (Ev.neg (by decide) ?_)
   by_cases h64 : 64 < a.f2.size
   ·refine Ev.pos yg ((Ev.now _).to ?_)
    rw [if_pos h64]
   rw [if_neg h64]
   refine Ev.neg yg ?_
   refine dup_r l hl a.f0 a.f1 a.f2 _ _ i hi _ i 0 yg ?_
   rw [List.drop_zero]
   by_cases hd : ((l.take i).any fun b => decide (L b.f0 = L a.f0)) = true
   ·rw [if_pos hd, if_pos hd]
   ·rw [if_neg hd, if_neg hd, w64 (n := (i : Int) + 1) yg yg]
    have ih := rel_r l hl hf t (i + 1) ht yg
    have e2 : l.take (i + 1) = l.take i ++ [a] := by
     rw [List.take_add_one]
     have := congrArg (fun l => l[0]?) h
     simp [List.getElem?_drop] at this
     rw [this]; rfl
    rw [e2] at ih
    exact ih
theorem CheckName_l0 (n : List (List S40)) (hn : n.length < 1000) (hf : ∀ l ∈ n, Fit l) : ∀ (rest : List (List S40)) (i : Nat), n.drop i = rest → Ev (fun k => ze.l0 k n (n.length : Int) i) (relsErr rest)
 | [], i, h => by
  have hn := list_nil h
  refine Ev.step (fun k => by rw [ze.l0]) ?_
  exact Ev.neg yg (Ev.now _)
 | a :: t, i, h => by
  obtain ⟨hli, _, ht⟩ := list_cons (d := ([] : List S40)) h
  refine Ev.step (fun k => by rw [ze.l0]) ?_
  rw [rdL4 h]
  refine Ev.pos yg (Ev.pos yg (Ev.pos yg ?_))
  rw [relsErr]
  by_cases h0 : a.length = 0
  ·refine Ev.pos yg ((Ev.now _).to ?_)
   unfold relErr
   rw [if_pos h0, if_neg (by decide)]
  refine Ev.neg yg ?_
  by_cases h4 : 4 < a.length
  ·refine Ev.pos yg ((Ev.now _).to ?_)
   unfold relErr
   rw [if_neg h0, if_pos h4, if_neg (by decide)]
  refine Ev.neg yg ?_
  have er : relErr a = relFrom [] a := by unfold relErr; rw [if_neg h0, if_neg h4]
  refine Ev.bind (show Ev (fun k => qk.f k a) (relFrom [] a) from rel_r a yg (hf a (List.mem_of_mem_drop (i := i) (by rw [h]; exact List.mem_cons_self ..))) a 0 rfl yg) ?_
  rw [er]
  by_cases hz : relFrom [] a = 0
  ·rw [if_pos hz, w64 (n := (i : Int) + 1) yg yg]
   exact Ev.pos hz (CheckName_l0 n hn hf t (i + 1) ht)
  ·rw [if_neg hz]
   exact Ev.neg hz (Ev.now _)
theorem CheckName_f (n : List (List S40)) (hf : ∀ l ∈ n, Fit l) : Ev (fun k => ze.f k n) (nameErr n) := by
 unfold ze.f nameErr
 by_cases h8 : 8 < n.length
 ·rw [if_pos h8]
  exact Ev.pos yg (Ev.now _)
 ·rw [if_neg h8]
  exact Ev.neg yg (CheckName_l0 n yg hf n 0 rfl)
end Go.Proofs.YthdoohfdminfgaaGreatDoor.Pl
end
section
namespace Go.Proofs.YthdoohfdminfgaaGreatDoor.Pl
set_option linter.unusedVariables false
def leL (x y : List UInt8) : Bool := decide (x ≤ y)
theorem leL_total (x y : List UInt8) : (leL x y || leL y x) = true := by
 unfold leL
 rcases List.le_total x y with h | h <;> simp [h]
theorem leL_trans (x y z : List UInt8) (h : leL x y = true) (k : leL y z = true) : leL x z = true := by
 unfold leL at *
 exact decide_eq_true (List.le_trans (of_decide_eq_true h) (of_decide_eq_true k))
theorem leL_antisymm (x y : List UInt8) (h : leL x y = true) (k : leL y x = true) : x = y := List.le_antisymm (of_decide_eq_true h) (of_decide_eq_true k)
theorem sorted_unique : ∀ (a b : List (List UInt8)), a.Perm b → a.Pairwise (fun x y => leL x y = true) → b.Pairwise (fun x y => leL x y = true) → a = b
 | [], b, hp, _, _ => (List.Perm.nil_eq hp)
 | x :: a, [], hp, _, _ => absurd hp.length_eq yt
 | x :: a, y :: b, hp, ha, hb => by
  obtain ⟨a1, a2⟩ := List.pairwise_cons.1 ha
  obtain ⟨b1, b2⟩ := List.pairwise_cons.1 hb
  have e : x = y := by
   rcases List.mem_cons.1 (hp.mem_iff.1 List.mem_cons_self) with h | h
   ·exact h
   ·rcases List.mem_cons.1 (hp.mem_iff.2 List.mem_cons_self) with k | k
    ·exact k.symm
    ·exact leL_antisymm x y (a1 y k) (b1 x h)
  subst e
  rw [sorted_unique a b (List.Perm.cons_inv hp) a2 b2]
end Go.Proofs.YthdoohfdminfgaaGreatDoor.Pl
end
section
namespace Go.Proofs.YthdoohfdminfgaaGreatDoor.Pl
open Go.RowKit Go.Proofs.YthdoohfdminfgaaGreatDoorW.PrintWords Go.Proofs.YthdoohfdminfgaaGreatDoor.C
set_option linter.unusedSimpArgs false
set_option linter.unusedVariables false
def catB (l : List ByteArray) : ByteArray := S (l.map L).flatten
theorem L_cat (l : List ByteArray) : L (catB l) = (l.map L).flatten := rfl
theorem catB_nil : catB [] = (⟨#[]⟩ : ByteArray) := rfl
theorem catB_cons (x : ByteArray) (l : List ByteArray) : catB (x :: l) = x ++ catB l := L_inj (by rw [L_append, L_cat, L_cat]; simp)
theorem catB_two (x y : ByteArray) : catB [x, y] = x ++ y := L_inj (by rw [L_cat, L_append]; simp)
theorem catB_append (a b : List ByteArray) : catB (a ++ b) = catB a ++ catB b := L_inj (by rw [L_append, L_cat, L_cat, L_cat]; simp)
theorem inter_nil : ∀ (l : List (List UInt8)), Lib.join l [] = l.flatten
 | [] => rfl
 | x :: l => by rw [Lib.join_cons]; simp [Lib.joinTail]
theorem join_f (l : List ByteArray) (hl : l.length ≤ 1000000) (hs : (catB l).size ≤ 1000000) : strings_Join.f l (⟨#[]⟩ : ByteArray) = some (catB l) := by
 have e : Lib.join (l.map (·.data.toList)) [] = (l.map L).flatten := inter_nil _
 have hz : ((l.map L).flatten).length ≤ 1000000 := by rw [← L_cat, ← size_L]; exact hs
 unfold strings_Join.f
 rw [show (⟨#[]⟩ : ByteArray).data.toList = [] from rfl, e, if_pos ⟨by omega, by omega⟩]
 rfl
theorem size_nums (l : List Int) : (strOfNums l).size = l.length := by rw [size_L, L_nums, List.length_map]
def nums (s : ByteArray) : List Int := (pieces 46 (L s)).map (val 0)
theorem sortS_L (l : List ByteArray) : (sortS l).map L = (l.map L).mergeSort fun x y => decide (x ≤ y) := by
 unfold sortS
 rw [List.map_map]
 have : (L ∘ fun b : List UInt8 => (⟨b.toArray⟩ : ByteArray)) = id := rfl
 rw [this, List.map_id]
 rfl
theorem sortS_perm (l : List ByteArray) : (sortS l).Perm l := by
 have h : ((sortS l).map L).Perm (l.map L) := by rw [sortS_L]; exact List.mergeSort_perm _ _
 have h2 := h.map S
 rw [List.map_map, List.map_map, show (S ∘ L) = id from funext S_L, List.map_id, List.map_id] at h2
 exact h2
end Go.Proofs.YthdoohfdminfgaaGreatDoor.Pl
end
section
namespace Go.Proofs.YthdoohfdminfgaaGreatDoor.Pl
open Go.RowKit Go.Proofs.YthdoohfdminfgaaGreatDoorW.PrintWords Go.Proofs.YthdoohfdminfgaaGreatDoor.C
set_option linter.unusedSimpArgs false
set_option linter.unusedVariables false
inductive Pt where
 | num (n : Nat)
 | txt (s : ByteArray)
def Pt.val : Pt → Value
 | .num n => .iface 3 (.int .i64 (n : Int))
 | .txt s => .iface 9 (.string s)
def Pt.ok : Pt → Prop
 | .num n => n < 100
 | .txt s => s.size < 100
def dec (n : Nat) : ByteArray := ⟨(Lib.decDigits n).toArray⟩
def Pt.out : Pt → List ByteArray
 | .num n => [dec n, (⟨#[59]⟩ : ByteArray)]
 | .txt s => [dec s.size, (⟨#[58]⟩ : ByteArray), s]
def outs (P : List Pt) : List ByteArray := (P.map Pt.out).flatten
def joinB (P : List Pt) : ByteArray := catB (outs P)
theorem outs_cons (p : Pt) (P : List Pt) : outs (p :: P) = p.out ++ outs P := rfl
theorem outs_snoc (P : List Pt) (p : Pt) : outs (P ++ [p]) = outs P ++ p.out := by simp [outs]
theorem outs_len : ∀ (P : List Pt), (outs P).length ≤ 3 * P.length
 | [] => Nat.le_refl _
 | p :: P => by
  have := outs_len P
  rw [outs_cons, List.length_append, List.length_cons]
  have : p.out.length ≤ 3 := by cases p <;> simp [Pt.out]
  omega
def encL : Pt → List UInt8
 | .num n => Lib.decDigits n ++ [59]
 | .txt s => Lib.decDigits s.size ++ 58 :: L s
theorem L_join_nil : L (joinB []) = [] := rfl
theorem L_join_cons (p : Pt) (P : List Pt) : L (joinB (p :: P)) = encL p ++ L (joinB P) := by
 unfold joinB
 rw [outs_cons, catB_append, L_append]
 cases p with
 | num n => rw [L_cat]; simp [Pt.out, encL, dec, L]
 | txt s => rw [L_cat]; simp [Pt.out, encL, dec, L]
theorem digs_dec {n : Nat} (h : n < 100) : digs (Lib.decDigits n) = true := by
 by_cases h1 : n < 10
 ·rw [Lib.decDigits_one h1]
  simp only [digs, List.all_cons, List.all_nil, Bool.and_true, Bool.and_eq_true, decide_eq_true_iff]
  rw [UInt8.toNat_ofNat']
  omega
 ·rw [Lib.decDigits_two h1 h]
  simp only [digs, List.all_cons, List.all_nil, Bool.and_true, Bool.and_eq_true, decide_eq_true_iff]
  rw [UInt8.toNat_ofNat', UInt8.toNat_ofNat']
  omega
theorem val_dec {n : Nat} (h : n < 100) : val 0 (Lib.decDigits n) = (n : Int) := by
 by_cases h1 : n < 10
 ·rw [Lib.decDigits_one h1]
  simp only [val]
  rw [UInt8.toNat_ofNat']
  omega
 ·rw [Lib.decDigits_two h1 h]
  simp only [val]
  rw [UInt8.toNat_ofNat', UInt8.toNat_ofNat']
  omega
theorem dec_size {n : Nat} (h : n < 100) : (dec n).size ≤ 2 := by
 rw [size_L]
 show (Lib.decDigits n).length ≤ 2
 by_cases h1 : n < 10
 ·rw [Lib.decDigits_one h1]; simp
 ·rw [Lib.decDigits_two h1 h]; simp
theorem digs_split : ∀ (a b : List UInt8) (c d : UInt8) (X Y : List UInt8), digs a = true → digs b = true → ¬ (48 ≤ c.toNat ∧ c.toNat ≤ 57) → ¬ (48 ≤ d.toNat ∧ d.toNat ≤ 57) → a ++ c :: X = b ++ d :: Y → a = b ∧ c = d ∧ X = Y
 | [], [], c, d, X, Y, _, _, _, _, h => by
  injection h with h1 h2
  exact ⟨rfl, h1, h2⟩
 | [], y :: b, c, d, X, Y, _, hb, hc, _, h => by
  injection h with h1 _
  subst h1
  exact absurd ((digs_cons c b).1 hb).1 hc
 | x :: a, [], c, d, X, Y, ha, _, _, hd, h => by
  injection h with h1 _
  subst h1
  exact absurd ((digs_cons x a).1 ha).1 hd
 | x :: a, y :: b, c, d, X, Y, ha, hb, hc, hd, h => by
  injection h with h1 h2
  obtain ⟨r1, r2, r3⟩ := digs_split a b c d X Y ((digs_cons x a).1 ha).2 ((digs_cons y b).1 hb).2 hc hd h2
  exact ⟨by rw [h1, r1], r2, r3⟩
theorem dec_split {n m : Nat} (hn : n < 100) (hm : m < 100) {c d : UInt8} {X Y : List UInt8} (hc : ¬ (48 ≤ c.toNat ∧ c.toNat ≤ 57)) (hd : ¬ (48 ≤ d.toNat ∧ d.toNat ≤ 57)) (h : Lib.decDigits n ++ c :: X = Lib.decDigits m ++ d :: Y) : n = m ∧ c = d ∧ X = Y := by
 obtain ⟨h1, h2, h3⟩ := digs_split _ _ _ _ _ _ (digs_dec hn) (digs_dec hm) hc hd h
 have h4 := val_dec hn
 rw [h1, val_dec hm] at h4
 exact ⟨by omega, h2, h3⟩
theorem join_inj : ∀ (P Q : List Pt), (∀ p ∈ P, p.ok) → (∀ q ∈ Q, q.ok) → L (joinB P) = L (joinB Q) → P = Q
 | [], [], _, _, _ => rfl
 | [], q :: Q, _, _, h => by
  rw [L_join_nil, L_join_cons] at h
  cases q <;> simp [encL] at h
 | p :: P, [], _, _, h => by
  rw [L_join_nil, L_join_cons] at h
  cases p <;> simp [encL] at h
 | p :: P, q :: Q, hp, hq, h => by
  rw [L_join_cons, L_join_cons] at h
  have hp0 := hp p (List.mem_cons_self ..)
  have hq0 := hq q (List.mem_cons_self ..)
  have ih := join_inj P Q (fun x hx => hp x (List.mem_cons_of_mem _ hx)) (fun x hx => hq x (List.mem_cons_of_mem _ hx))
  cases p with
  | num n =>
   cases q with
   | num m =>
    simp only [encL, List.append_assoc, List.cons_append, List.nil_append] at h
    obtain ⟨h1, _, h3⟩ := dec_split hp0 hq0 (by decide) (by decide) h
    rw [h1, ih h3]
   | txt s =>
    simp only [encL, List.append_assoc, List.cons_append, List.nil_append] at h
    obtain ⟨_, h2, _⟩ := dec_split hp0 hq0 (by decide) (by decide) h
    exact absurd h2 (by decide)
  | txt t =>
   cases q with
   | num m =>
    simp only [encL, List.append_assoc, List.cons_append, List.nil_append] at h
    obtain ⟨_, h2, _⟩ := dec_split hp0 hq0 (by decide) (by decide) h
    exact absurd h2 (by decide)
   | txt s =>
    simp only [encL, List.append_assoc, List.cons_append, List.nil_append] at h
    obtain ⟨h1, _, h3⟩ := dec_split hp0 hq0 (by decide) (by decide) h
    obtain ⟨h4, h5⟩ := List.append_inj h3 (by rw [← size_L, ← size_L]; exact h1)
    rw [L_inj h4, ih h5]
def keyA (a : S40) : ByteArray := joinB [.txt a.f0, .txt (F a.f2)]
def keyR (r : List S40) : List Pt := .num r.length :: (sortS (r.map keyA)).map .txt
def keyP (n : List (List S40)) : List Pt := .num n.length :: (n.map keyR).flatten
def keyS (n : List (List S40)) : ByteArray := joinB (keyP n)
def keyQ (n : List (List S40)) (i : Nat) : List Pt := .num n.length :: ((n.take i).map keyR).flatten
theorem keyQ_zero (n : List (List S40)) : keyQ n 0 = [.num n.length] := rfl
theorem keyQ_all (n : List (List S40)) : keyQ n n.length = keyP n := by unfold keyQ keyP; rw [List.take_length]
theorem keyQ_succ {n : List (List S40)} {i : Nat} {r : List S40} (h : n[i]? = some r) : keyQ n (i + 1) = keyQ n i ++ keyR r := by
 unfold keyQ
 rw [List.take_add_one, h]
 simp
def Petty (n : List (List S40)) : Prop := n.length ≤ 8 ∧ ∀ r ∈ n, r.length ≤ 4 ∧ ∀ a ∈ r, a.f0.size ≤ 40 ∧ a.f2.size ≤ 40 ∧ (F a.f2).size ≤ 40
theorem keyR_len (r : List S40) : (keyR r).length = r.length + 1 := by unfold keyR; simp [sortS_length]
theorem keys_len : ∀ (l : List (List S40)), (∀ r ∈ l, r.length ≤ 4) → ((l.map keyR).flatten).length ≤ 5 * l.length
 | [], _ => by simp
 | r :: l, h => by
  have h1 := keys_len l (fun q hq => h q (List.mem_cons_of_mem _ hq))
  have h2 := h r (List.mem_cons_self ..)
  rw [List.map_cons, List.flatten_cons, List.length_append, keyR_len, List.length_cons]
  omega
theorem keyQ_len {n : List (List S40)} (h : Petty n) (i : Nat) : (keyQ n i).length ≤ 50 := by
 unfold keyQ
 have h1 := keys_len (n.take i) (fun r hr => (h.2 r (List.mem_of_mem_take hr)).1)
 have h2 := h.1
 rw [List.length_take] at h1
 rw [List.length_cons]
 omega
theorem join_size : ∀ (P : List Pt), (∀ p ∈ P, p.ok) → (joinB P).size ≤ 102 * P.length
 | [], _ => by show (catB []).size ≤ 0; rw [catB_nil]; exact Nat.le_refl 0
 | p :: P, h => by
  have ih := join_size P (fun x hx => h x (List.mem_cons_of_mem _ hx))
  have h0 := h p (List.mem_cons_self ..)
  unfold joinB at ih ⊢
  rw [outs_cons, catB_append, ByteArray.size_append, List.length_cons]
  have : (catB p.out).size ≤ 102 := by
   cases p with
   | num n =>
    have := dec_size h0
    show (catB [dec n, (⟨#[59]⟩ : ByteArray)]).size ≤ 102
    rw [catB_two, ByteArray.size_append, show (⟨#[59]⟩ : ByteArray).size = 1 from rfl]
    omega
   | txt s =>
    have := dec_size h0
    have h1 : s.size < 100 := h0
    show (catB [dec s.size, (⟨#[58]⟩ : ByteArray), s]).size ≤ 102
    rw [catB_cons, catB_two, ByteArray.size_append, ByteArray.size_append, show (⟨#[58]⟩ : ByteArray).size = 1 from rfl]
    omega
  omega
theorem keyA_ok {a : S40} (h : a.f0.size ≤ 40 ∧ (F a.f2).size ≤ 40) : ∀ p ∈ [Pt.txt a.f0, Pt.txt (F a.f2)], p.ok := by
 intro p hp
 rcases List.mem_cons.1 hp with rfl | hp
 ·show a.f0.size < 100; omega
 ·rw [List.mem_singleton.1 hp]; show (F a.f2).size < 100; omega
theorem keyA_size {a : S40} (h : a.f0.size ≤ 40 ∧ (F a.f2).size ≤ 40) : (keyA a).size < 100 := by
 unfold keyA joinB
 show (catB [dec a.f0.size, (⟨#[58]⟩ : ByteArray), a.f0, dec (F a.f2).size, (⟨#[58]⟩ : ByteArray), F a.f2]).size < 100
 have h1 := dec_size (show a.f0.size < 100 by omega)
 have h2 := dec_size (show (F a.f2).size < 100 by omega)
 rw [catB_cons, catB_cons, catB_cons, catB_cons, catB_two]
 simp only [ByteArray.size_append]
 rw [show (⟨#[58]⟩ : ByteArray).size = 1 from rfl]
 omega
theorem keyA_inj {a b : S40} (ha : a.f0.size ≤ 40 ∧ (F a.f2).size ≤ 40) (hb : b.f0.size ≤ 40 ∧ (F b.f2).size ≤ 40) (h : keyA a = keyA b) : eqA a b = true := by
 have := join_inj _ _ (keyA_ok ha) (keyA_ok hb) (congrArg L h)
 simp only [List.cons.injEq, Pt.txt.injEq, and_true] at this
 exact (eqA_iff a b).2 ⟨by rw [this.1], by rw [this.2]⟩
theorem keyA_eq {a b : S40} (h : eqA a b = true) : keyA a = keyA b := by
 obtain ⟨h1, h2⟩ := (eqA_iff a b).1 h
 rw [toList_L, toList_L] at h1 h2
 unfold keyA
 rw [L_inj h1, L_inj h2]
theorem sort_eq {a b : List ByteArray} (h : a.Perm b) : sortS a = sortS b := by
 have hs : ∀ l : List ByteArray, ((sortS l).map L).Pairwise (fun x y => leL x y = true) := fun l => by
  rw [sortS_L]
  exact List.pairwise_mergeSort (le := leL) (fun a b c => leL_trans a b c) (fun a b => leL_total a b) _
 have h1 : ((sortS a).map L).Perm ((sortS b).map L) := (((sortS_perm a).trans h).trans (sortS_perm b).symm).map L
 have h2 := congrArg (List.map S) (sorted_unique _ _ h1 (hs a) (hs b))
 rw [List.map_map, List.map_map, show (S ∘ L) = id from funext S_L, List.map_id, List.map_id] at h2
 exact h2
def Dist (r : List S40) : Prop := (∃ a, r = [a]) ∨ ∃ a b, a.f0.toList ≠ b.f0.toList ∧ r = [a, b]
theorem Dist.made {r : List S40} (h : RelMade r) : Dist r := by
 rcases h with ⟨a, _, rfl⟩ | ⟨a, b, _, _, hn, rfl⟩
 ·exact .inl ⟨a, rfl⟩
 ·exact .inr ⟨a, b, hn, rfl⟩
theorem Dist.spell {r l : List S40} (h : Dist r) (hs : SpR r l) : Dist l := by
 obtain ⟨h0, h1, _⟩ := hs
 rcases h with ⟨a, rfl⟩ | ⟨a, b, hn, rfl⟩
 ·match l, h0 with
  | [x], _ => exact .inl ⟨x, rfl⟩
 ·match l, h0 with
  | [x, y], _ =>
   refine .inr ⟨x, y, fun e => hn ?_, rfl⟩
   obtain ⟨p, hp, hpa, _⟩ := h1 a yt
   obtain ⟨q, hq, hqb, _⟩ := h1 b yt
   rw [← hpa, ← hqb]
   simp only [List.mem_cons, List.not_mem_nil, or_false] at hp hq
   rcases hp with rfl | rfl <;> rcases hq with rfl | rfl
   ·rfl
   ·exact e
   ·exact e.symm
   ·rfl
theorem same_perm {r r' : List S40} (h : Dist r) (h' : Dist r') (hs : sameS r r' = true) : (r.map keyA).Perm (r'.map keyA) := by
 obtain ⟨hl, h1, _⟩ := (sameS_iff r r').1 hs
 rcases h with ⟨a, rfl⟩ | ⟨a, b, hn, rfl⟩
 ·rcases h' with ⟨c, rfl⟩ | ⟨c, d, _, rfl⟩
  ·obtain ⟨x, hx, hxa⟩ := (hasS_iff _ _).1 (h1 a yt)
   rw [List.mem_singleton.1 hx] at hxa
   simp only [List.map_cons, List.map_nil, keyA_eq hxa]
   exact List.Perm.refl _
  ·simp at hl
 ·rcases h' with ⟨c, rfl⟩ | ⟨c, d, _, rfl⟩
  ·simp at hl
  ·obtain ⟨x, hx, hxa⟩ := (hasS_iff _ _).1 (h1 a yt)
   obtain ⟨y, hy, hyb⟩ := (hasS_iff _ _).1 (h1 b yt)
   simp only [List.mem_cons, List.not_mem_nil, or_false] at hx hy
   have ha := ((eqA_iff _ _).1 hxa).1
   have hb := ((eqA_iff _ _).1 hyb).1
   have ka := keyA_eq hxa
   have kb := keyA_eq hyb
   simp only [List.map_cons, List.map_nil]
   rcases hx with rfl | rfl <;> rcases hy with rfl | rfl
   ·exact absurd (ha.trans hb.symm) hn
   ·rw [ka, kb]
   ·rw [ka, kb]; exact List.Perm.swap _ _ _
   ·exact absurd (ha.trans hb.symm) hn
theorem keyR_eq {r r' : List S40} (h : Dist r) (h' : Dist r') (hs : sameS r r' = true) : keyR r = keyR r' := by
 unfold keyR
 rw [sort_eq (same_perm h h' hs), ((sameS_iff r r').1 hs).1]
theorem keyS_eq {n m : List (List S40)} (h : ∀ r ∈ n, Dist r) (h' : ∀ r ∈ m, Dist r) (hm : matchS n m = true) : keyS n = keyS m := by
 obtain ⟨hl, hw⟩ := (matchS_iff n m).1 hm
 have hw2 := ((withinS_iff n m).1 hw).2
 unfold keyS keyP
 have : n.map keyR = m.map keyR := by
  refine List.ext_getElem (by simp [hl]) fun i h1 h2 => ?_
  rw [List.length_map] at h1 h2
  rw [List.getElem_map, List.getElem_map]
  exact keyR_eq (h _ (List.getElem_mem h1)) (h' _ (List.getElem_mem h2)) (hw2 i _ _ (List.getElem?_eq_getElem h1) (List.getElem?_eq_getElem h2))
 rw [this, hl]
theorem keyP_ok {n : List (List S40)} (h : Petty n) : ∀ p ∈ keyP n, p.ok := by
 intro p hp
 unfold keyP at hp
 rcases List.mem_cons.1 hp with rfl | hp
 ·show n.length < 100; have := h.1; omega
 ·obtain ⟨l, hl, hpl⟩ := List.mem_flatten.1 hp
  obtain ⟨r, hr, rfl⟩ := List.mem_map.1 hl
  unfold keyR at hpl
  obtain ⟨h4, ha⟩ := h.2 r hr
  rcases List.mem_cons.1 hpl with rfl | hpl
  ·show r.length < 100; omega
  ·obtain ⟨s, hs, rfl⟩ := List.mem_map.1 hpl
   obtain ⟨a, haa, rfl⟩ := List.mem_map.1 ((sortS_perm _).mem_iff.1 hs)
   exact keyA_size ⟨(ha a haa).1, (ha a haa).2.2⟩
theorem keyR_split {r r' : List S40} {X Y : List Pt} (h : keyR r ++ X = keyR r' ++ Y) : r.length = r'.length ∧ sortS (r.map keyA) = sortS (r'.map keyA) ∧ X = Y := by
 unfold keyR at h
 simp only [List.cons_append, List.cons.injEq, Pt.num.injEq] at h
 obtain ⟨h1, h2⟩ := h
 obtain ⟨h3, h4⟩ := List.append_inj h2 (by simp [sortS_length, h1])
 exact ⟨h1, (List.map_inj_right (fun a b e => by injection e)).1 h3, h4⟩
theorem keyR_same {r r' : List S40} (hr : ∀ a ∈ r, a.f0.size ≤ 40 ∧ (F a.f2).size ≤ 40) (hr' : ∀ a ∈ r', a.f0.size ≤ 40 ∧ (F a.f2).size ≤ 40) (hl : r.length = r'.length) (h : sortS (r.map keyA) = sortS (r'.map keyA)) : sameS r r' = true := by
 have hp : (r.map keyA).Perm (r'.map keyA) := (sortS_perm _).symm.trans (h ▸ sortS_perm _)
 refine (sameS_iff r r').2 ⟨hl, fun x hx => (hasS_iff _ _).2 ?_, fun y hy => (hasS_iff _ _).2 ?_⟩
 ·obtain ⟨y, hy, e⟩ := List.mem_map.1 (hp.mem_iff.1 (List.mem_map.2 ⟨x, hx, rfl⟩))
  exact ⟨y, hy, keyA_inj (hr x hx) (hr' y hy) e.symm⟩
 ·obtain ⟨x, hx, e⟩ := List.mem_map.1 (hp.mem_iff.2 (List.mem_map.2 ⟨y, hy, rfl⟩))
  exact ⟨x, hx, keyA_inj (hr' y hy) (hr x hx) e.symm⟩
theorem keys_same : ∀ (n m : List (List S40)), (∀ r ∈ n, ∀ a ∈ r, a.f0.size ≤ 40 ∧ (F a.f2).size ≤ 40) → (∀ r ∈ m, ∀ a ∈ r, a.f0.size ≤ 40 ∧ (F a.f2).size ≤ 40) → n.length = m.length → (n.map keyR).flatten = (m.map keyR).flatten →
  ∀ (i : Nat) (x y : List S40), n[i]? = some x → m[i]? = some y → sameS x y = true
 | [], [], _, _, _, _ => fun i x y hx _ => by simp at hx
 | [], _ :: _, _, _, hl, _ => by simp at hl
 | _ :: _, [], _, _, hl, _ => by simp at hl
 | r :: n, r' :: m, hn, hm, hl, h => fun i x y hx hy => by
  simp only [List.map_cons, List.flatten_cons] at h
  obtain ⟨h1, h2, h3⟩ := keyR_split h
  cases i with
  | zero =>
   simp only [List.getElem?_cons_zero, Option.some.injEq] at hx hy
   subst hx
   subst hy
   exact keyR_same (hn _ (List.mem_cons_self ..)) (hm _ (List.mem_cons_self ..)) h1 h2
  | succ i =>
   simp only [List.getElem?_cons_succ] at hx hy
   exact keys_same n m (fun q hq => hn q (List.mem_cons_of_mem _ hq)) (fun q hq => hm q (List.mem_cons_of_mem _ hq)) (by simpa using hl) h3 i x y hx hy
theorem keyS_match {n m : List (List S40)} (hn : Petty n) (hm : Petty m) (h : keyS n = keyS m) : matchS n m = true := by
 have hp := join_inj _ _ (keyP_ok hn) (keyP_ok hm) (congrArg L h)
 unfold keyP at hp
 simp only [List.cons.injEq, Pt.num.injEq] at hp
 refine (matchS_iff n m).2 ⟨hp.1, (withinS_iff n m).2 ⟨by omega, keys_same n m (fun r hr a ha => ?_) (fun r hr a ha => ?_) hp.1 hp.2⟩⟩
 ·exact ⟨((hn.2 r hr).2 a ha).1, ((hn.2 r hr).2 a ha).2.2⟩
 ·exact ⟨((hm.2 r hr).2 a ha).1, ((hm.2 r hr).2 a ha).2.2⟩
theorem key_law {n m : List (List S40)} (hn : Petty n) (hm : Petty m) (dn : ∀ r ∈ n, Dist r) (dm : ∀ r ∈ m, Dist r) : ((keyS n).toList == (keyS m).toList) = matchS n m := by
 rw [toList_L, toList_L]
 cases h : matchS n m with
 | true => rw [keyS_eq dn dm h]; exact beq_self_eq_true _
 | false =>
  refine beq_eq_false_iff_ne.mpr fun e => ?_
  rw [keyS_match hn hm (L_inj e)] at h
  cases h
theorem made12_petty : ∀ a ∈ made12, a.f0.size ≤ 39 ∧ a.f2.size ≤ 39 := by decide +kernel
theorem foldStep_len (st : List Int × Bool) (c : Int) : (foldStep st c).1.length + (if (foldStep st c).2 then 1 else 0) ≤ st.1.length + (if st.2 then 1 else 0) + 1 := by
 unfold foldStep
 by_cases h : c = 32
 ·rw [if_pos h]; simp only; split <;> split <;> omega
 ·rw [if_neg h]
  cases st.2 <;> simp
theorem fold_len2 : ∀ (l : List Int) (st : List Int × Bool), (l.foldl foldStep st).1.length + (if (l.foldl foldStep st).2 then 1 else 0) ≤ st.1.length + (if st.2 then 1 else 0) + l.length
 | [], st => Nat.le_refl _
 | c :: l, st => by
  have h1 := fold_len2 l (foldStep st c)
  have h2 := foldStep_len st c
  rw [List.foldl_cons, List.length_cons]
  omega
theorem F_size (s : ByteArray) : (F s).size ≤ s.size := by
 unfold F
 rw [size_nums]
 have := fold_len2 (bytesOf s) ([], false)
 have h2 : (bytesOf s).length = s.size := by unfold bytesOf; rw [size_L]; simp [L]
 unfold foldP
 simp at this
 omega
theorem Petty.of {n : List (List S40)} (h8 : n.length ≤ 8) (h : ∀ r ∈ n, r.length ≤ 4 ∧ ∀ a ∈ r, a.f0.size ≤ 40 ∧ a.f2.size ≤ 40) : Petty n :=
 ⟨h8, fun r hr => ⟨(h r hr).1, fun a ha => ⟨((h r hr).2 a ha).1, ((h r hr).2 a ha).2, Nat.le_trans (F_size _) ((h r hr).2 a ha).2⟩⟩⟩
theorem made_rel {r : List S40} (h : RelMade r) : r.length ≤ 4 ∧ ∀ a ∈ r, a.f0.size ≤ 39 ∧ a.f2.size ≤ 39 := by
 rcases h with ⟨a, ha, rfl⟩ | ⟨a, b, ha, hb, _, rfl⟩
 ·exact ⟨by simp, fun q hq => by rw [List.mem_singleton.1 hq]; exact made12_petty a ha⟩
 ·refine ⟨by simp, fun q hq => ?_⟩
  rcases List.mem_cons.1 hq with rfl | hq
  ·exact made12_petty _ ha
  ·rw [List.mem_singleton.1 hq]; exact made12_petty b hb
theorem Petty.made {n : List (List S40)} (hl : n.length ≤ 3) (h : ∀ r ∈ n, RelMade r) : Petty n :=
 Petty.of yg fun r hr => ⟨(made_rel (h r hr)).1, fun a ha => by have := (made_rel (h r hr)).2 a ha; omega⟩
theorem Petty.spell {n m : List (List S40)} (hl : n.length ≤ 3) (h : ∀ r ∈ n, RelMade r) (hs : SpN n m n.length) : Petty m ∧ ∀ r ∈ m, Dist r := by
 have each : ∀ l ∈ m, ∃ r ∈ n, SpR r l := fun l hm => by
  obtain ⟨i, hi, rfl⟩ := List.getElem_of_mem hm
  have hi2 : i < n.length := by rw [← hs.1]; exact hi
  exact ⟨n[i], List.getElem_mem hi2, hs.2 i _ _ hi2 (List.getElem?_eq_getElem hi2) (List.getElem?_eq_getElem hi)⟩
 refine ⟨Petty.of (by rw [hs.1]; omega) fun l hm => ?_, fun l hm => ?_⟩
 ·obtain ⟨r, hr, h0, _, h2⟩ := each l hm
  have hr2 := made_rel (h r hr)
  refine ⟨by rw [h0]; exact hr2.1, fun y hy => ?_⟩
  obtain ⟨x, hx, hsp⟩ := h2 y hy
  have h3 := hr2.2 x hx
  have h4 := SpA_size hsp
  rw [hsp.1]
  omega
 ·obtain ⟨r, hr, hs⟩ := each l hm
  exact (Dist.made (h r hr)).spell hs
end Go.Proofs.YthdoohfdminfgaaGreatDoor.Pl
end
