/- Words, walks and plain laws that the claim rests on, gathered. -/
import Derived.Below
import Derived.Deep.Draws
import Derived.Deep.AppendLies
import Derived.Maps.AppendAt
import Derived.OwnWalk
import Derived.Laws.BytesArg
import Derived.Laws.MakeOwn
import Derived.Laws.OwnMore
import Derived.Deep.OwnRows
import Derived.Tactics
import Derived.Lib.ConvBytes
import Derived.Laws.Slices
import Derived.WalkKit
import Derived.KernelRfl
import Derived.RowKit3
import Derived.Deep.LoopGhost
import Derived.Deep.QuietTactic
import Derived.BigQuiet
import Derived.WideLaws
import Derived.Deep.DeepCutAuto
import Derived.Deep.CutBlock
import Derived.Deep.RegionHeld3
import Derived.Laws.Rows
import Derived.Lib.AppendStr
import Derived.ArgAppend
import Derived.Laws.IdiomCopy
import Derived.RowKit
import Derived.Shelf.Strings.Builder1
import Derived.Shelf.Strings.Builder2
import Derived.Shelf.Strings.OnBuilder
import Derived.Shelf.Small.Bits
import Derived.Shelf.Small.Strs
import Derived.Shelf.Strconv.Itoa0
import Derived.Shelf.Strings.Search1
import Derived.Shelf.Strings.Search2
import Derived.Shelf.Strings.Search3
import Derived.Shelf.Strings.Cut
import Derived.Shelf.Strings.Count
import Derived.Shelf.LaysM
import Derived.Shelf.Strings.Shaped
import Derived.Shelf.Sort.Plain
import Derived.Shelf.Strings.Prefix
import Derived.Shelf.Strings.Split
import Derived.Shelf.Strings.SplitShaped
import Derived.Shelf.Unicode.DecodeSlow
import Derived.Shelf.Slices.In.SortNone
import Derived.Shelf.Slices.In.SortNone2
import Derived.Test.YthdoohfdminfgaaGreatDoorProg
import Derived.WalkSpells
import Derived.OrdersHeld
import Derived.Laws.BitsLemmas
import Derived.WalkLawsBesides
import Derived.Laws.StructEq
import Derived.Test.YthdoohfdminfgaaGreatDoorNC0
import Derived.Test.YthdoohfdminfgaaGreatDoorNC1
import Derived.Test.YthdoohfdminfgaaGreatDoorNC2
import Derived.Test.YthdoohfdminfgaaGreatDoorNC9
import Derived.Test.YthdoohfdminfgaaGreatDoorNC11
import Derived.Test.YthdoohfdminfgaaGreatDoorNC14
import Derived.Test.YthdoohfdminfgaaGreatDoorNCc
namespace Go.Proofs.YthdoohfdminfgaaGreatDoorW.PrintLast
end Go.Proofs.YthdoohfdminfgaaGreatDoorW.PrintLast
namespace Go.Proofs.YthdoohfdminfgaaGreatDoorW.PrintMore
end Go.Proofs.YthdoohfdminfgaaGreatDoorW.PrintMore
namespace Go.Proofs.YthdoohfdminfgaaGreatDoorW.PrintWords
end Go.Proofs.YthdoohfdminfgaaGreatDoorW.PrintWords
section
namespace Go.Proofs.YthdoohfdminfgaaGreatDoor.C
open Go.RowKit Go.Proofs.YthdoohfdminfgaaGreatDoorW.PrintWords Go.Proofs.YthdoohfdminfgaaGreatDoorW.PrintLast Go.Proofs.YthdoohfdminfgaaGreatDoorW.PrintMore
attribute [local go_sem] kc xy kr ks xh xg xz xx
set_option linter.unusedVariables false
set_option linter.unusedSimpArgs false
def leB (y x : ByteArray) : Bool := Op.bytesLess y.toList x.toList || y.toList == x.toList
def kOf (s : List ByteArray) (x : ByteArray) : Nat := (s.takeWhile fun y => leB y x).length
theorem kOf_le (s : List ByteArray) (x : ByteArray) : kOf s x ≤ s.length := (List.takeWhile_prefix _).length_le
theorem kOf_lt : ∀ (s : List ByteArray) (x : ByteArray) (k : Nat) (h : k < s.length), k < kOf s x → leB s[k] x = true
 | [], x, k, h, _ => absurd h (Nat.not_lt_zero k)
 | y :: s, x, k, h, hk => by
  unfold kOf at hk
  rw [List.takeWhile_cons] at hk
  split at hk
  ·rename_i hy
   match k, h with
   | 0, _ => exact hy
   | k + 1, h => exact kOf_lt s x k (by simpa using h) (by unfold kOf; simpa using hk)
  ·simp at hk
theorem kOf_at : ∀ (s : List ByteArray) (x : ByteArray) (h : kOf s x < s.length), leB (s[kOf s x]'h) x = false
 | [], x, h => absurd h (Nat.not_lt_zero _)
 | y :: s, x, h => by
  by_cases hy : leB y x = true
  ·have e : kOf (y :: s) x = kOf s x + 1 := by unfold kOf; rw [List.takeWhile_cons, if_pos hy, List.length_cons]
   have h2 : kOf s x < s.length := by rw [e] at h; simpa using h
   have := kOf_at s x h2
   simpa [e] using this
  ·have e : kOf (y :: s) x = 0 := by unfold kOf; rw [List.takeWhile_cons, if_neg hy]; rfl
   simp only [e, List.getElem_cons_zero]
   exact Bool.eq_false_iff.mpr hy
def insB (s : List ByteArray) (x : ByteArray) : List ByteArray := s.take (kOf s x) ++ [x] ++ s.drop (kOf s x)
def insAllB (l : List ByteArray) : List ByteArray := l.foldl insB []
theorem fold_size : ∀ (l : List ByteArray) (b : ByteArray), (l.foldl (· ++ ·) b).size = b.size + (l.map ByteArray.size).sum
 | [], b => by simp
 | x :: l, b => by rw [List.foldl_cons, fold_size l, ByteArray.size_append, List.map_cons, List.sum_cons]; omega
theorem sum_take : ∀ (l : List ByteArray) (i : Nat), ((l.take i).map ByteArray.size).sum ≤ (l.map ByteArray.size).sum
 | [], i => by simp
 | x :: l, 0 => by simp
 | x :: l, i + 1 => by simp only [List.take_succ_cons, List.map_cons, List.sum_cons]; have := sum_take l i; omega
def xf.f (a0 : List ByteArray) : Option ByteArray := if a0.length ≤ 1000000000 ∧ ((insAllB a0).map ByteArray.size).sum ≤ 140737488355328 then some ((insAllB a0).foldl (· ++ ·) (⟨#[]⟩ : ByteArray)) else none
theorem insB_length (s : List ByteArray) (x : ByteArray) : (insB s x).length = s.length + 1 := by unfold insB; simp; omega
theorem foldB_length : ∀ (l s : List ByteArray), (l.foldl insB s).length = s.length + l.length
 | [], s => by simp
 | x :: l, s => by rw [List.foldl_cons, foldB_length l, insB_length]; simp; omega
theorem C_takeS {w : World} {A : Option Addr} {s : List ByteArray} (h : Kd.C Kd.string w A s.length s) {k : Nat} (hk : k ≤ s.length) : Kd.C Kd.string w A k (s.take k) := by
 have h1 := Kd.C_take h hk
 rwa [show (s.take k).length = k from by rw [List.length_take]; omega] at h1
theorem C_dropS {w : World} {A : Option Addr} {s : List ByteArray} (h : Kd.C Kd.string w A s.length s) {k c : Nat} (hk : k ≤ s.length) (hc : s.length ≤ c) : Kd.C Kd.string w (if c = k then A else A.map (·.add k)) (s.length - k) (s.drop k) := by
 have h1 := Kd.C_drop (c := c) h hk hc
 rwa [List.length_drop, show k * Kd.string.sz = k from Nat.mul_one _] at h1
def xf.T8 : Bool × List (List Nat × List Nat) := (true, [([], []), ([], []), ([0, 1], [0, 1]), ([2], [2]), ([], []), ([4], [4]), ([3, 5, 3], [3, 5]), ([], []), ([], []), ([7, 8], [7, 8]), ([6, 9, 6], [6, 9]), ([10, 10, 0, 1, 2, 3, 4, 5, 6, 7, 8, 9, 10], [0, 7, 10])])
def xf.B8 : List Nat := [0, 0, 3, 7, 0, 16, 63, 0, 0, 384, 1023, 2047]
theorem xf.tab8 : rtab .any (opsOf Tryz.f32 8) = xf.T8 := by kernel_rfl
theorem xf.bits8 : waitsOk xf.T8.2 xf.B8 = true := by kernel_rfl
set_option maxHeartbeats 8000000 in
set_option maxRecDepth 100000 in
theorem xf.calls (A0 : Option Addr) (c0 : Nat) (l0 : List ByteArray) (r : ByteArray) (w : World) (hr0 : Kd.C Kd.string w A0 l0.length l0) (hc0 : l0.length ≤ c0) (h : xf.f l0 = some r) :
  Calls Tryz.prog 32 #[.slice A0 l0.length c0] w fun e w' => e = .returned (.string r) ∧ Below w.heap.size w w' := by
 unfold xf.f at h
 split at h
 case isFalse => exact absurd h uf
 rename_i hn
 obtain rfl := Option.some.inj h
 clear h
 have HN := qb.mk hn
 have HR := qb.mk hr0
 have HC := qb.mk hc0
 clear hn hr0 hc0
 go_enter Tryz.func32, Tryz.ntmps32
 go_wp2
 go_loopg [3, 12] l0.length (fun kq v3 v12 w' => ∃ (i : Nat) (s : List ByteArray), v12 = .int .i64 i ∧ qb (i + kq = l0.length) ∧ qb (s = insAllB (l0.take i)) ∧ qb (Kd.R Kd.string 9 w' w.heap.size (fun _ => True) v3 s) ∧ qb (Below w.heap.size w w'))
 case atStart => exact ⟨0, [], rfl, ⟨by omega⟩, ⟨rfl⟩, ⟨Kd.jx _ _ _ _ _⟩, ⟨Below.refl _ _⟩⟩
 case round =>
  obtain ⟨i, s, rfl, hi, hs, HS, HB⟩ := hrel
  cases gk with
  | zero =>
   obtain rfl : i = l0.length := by have := hi.out; omega
   have hlt : decide ((l0.length : Int) < (l0.length : Int)) = false := decide_eq_false yg
   have hs0 := hs.out
   rw [List.take_length] at hs0
   subst hs0
   obtain ⟨A3, c3, rfl⟩ := Kd.xo HS.out
   clear hi hs hlt
   go_wp2
   go_loopg [7, 44] (insAllB l0).length (fun kq v7 v44 w' => ∃ i : Nat, v44 = .int .i64 i ∧ v7 = .string (((insAllB l0).take i).foldl (· ++ ·) (⟨#[]⟩ : ByteArray)) ∧ qb (i + kq = (insAllB l0).length) ∧ qb (Kd.C Kd.string w' A3 (insAllB l0).length (insAllB l0)) ∧ qb (Below w.heap.size w w'))
   case atStart => exact ⟨0, rfl, rfl, ⟨by omega⟩, ⟨(Kd.zq HS.out).2.2⟩, HB⟩
   case round =>
    clear HS HB
    obtain ⟨i, rfl, rfl, hi, HSC, HB⟩ := hrel
    by_cases hil : i < (insAllB l0).length
    ·cases gk with
     | zero => exact absurd hi.out yg
     | succ k2 =>
      have q0 : (0 ≤ (i : Int)) = True := eq_true yg
      have q1 : ((i : Int) < ((insAllB l0).length : Int)) = True := eq_true yg
      have q2 : decide ((i : Int) < ((insAllB l0).length : Int)) = true := decide_eq_true yg
      obtain ⟨b1, o1, rfl, hbb, hcell⟩ := str_cells HSC.out yg
      have hy := hcell i (insAllB l0)[i] (List.getElem?_eq_getElem hil)
      obtain ⟨y, hyd⟩ : ∃ y, y = (insAllB l0)[i] := ⟨_, rfl⟩
      rw [← hyd] at hy
      have W1i := qb.mk (show wrap64 ((i : Int) + 1) = ((i + 1 : Nat) : Int) by have := HN.out.1; have h3 : (insAllB l0).length = l0.length := (by unfold insAllB; rw [foldB_length]; simp); unfold wrap64; omega)
      have HF := qb.mk (show ((insAllB l0).take (i + 1)).foldl (· ++ ·) (⟨#[]⟩ : ByteArray) = ((insAllB l0).take i).foldl (· ++ ·) (⟨#[]⟩ : ByteArray) ++ y by rw [List.take_add_one, List.getElem?_eq_getElem hil, ← hyd, List.foldl_append]; rfl)
      have HZ := qb.mk (show (((insAllB l0).take i).foldl (· ++ ·) (⟨#[]⟩ : ByteArray)).size + y.size ≤ 9223372036854775807 by
       have h1 := congrArg ByteArray.size HF.out
       rw [ByteArray.size_append, fold_size] at h1
       have h2 := sum_take (insAllB l0) (i + 1)
       have h3 := HN.out.2
       have h4 : (⟨#[]⟩ : ByteArray).size = 0 := rfl
       omega)
      clear hcell hbb hyd
      generalize ((insAllB l0).take i).foldl (· ++ ·) (⟨#[]⟩ : ByteArray) = acc at HF HZ ⊢
      have hz := HZ.out
      go_wp2
      go_roundg k2
      case measure => omega
      case rel => exact ⟨i + 1, by rw [W1i.out], by rw [HF.out], ⟨by have := hi.out; omega⟩, HSC, HB⟩
    ·obtain rfl : i = (insAllB l0).length := by have := hi.out; omega
     have q1 : ((((insAllB l0).length : Nat) : Int) < ((insAllB l0).length : Int)) = False := eq_false yg
     have q2 : decide ((((insAllB l0).length : Nat) : Int) < ((insAllB l0).length : Int)) = false := decide_eq_false yg
     rw [List.take_length]
     go_wp2
     go_ret
     exact ⟨rfl, HB.out⟩
  | succ k1 =>
   have hlt0 : i < l0.length := by have := hi.out; omega
   have hlt : decide ((i : Int) < (l0.length : Int)) = true := decide_eq_true yg
   have p0 : (0 ≤ (i : Int)) = True := eq_true yg
   have p1 : ((i : Int) < (l0.length : Int)) = True := eq_true yg
   obtain ⟨b0, o0, rfl, hbb, hcell⟩ := str_cells (Kd.xv HR.out HB.out) yg
   have hx := hcell i l0[i] (List.getElem?_eq_getElem hlt0)
   obtain ⟨x, hxd⟩ : ∃ x, x = l0[i] := ⟨_, rfl⟩
   rw [← hxd] at hx
   have HX := qb.mk hxd
   clear hxd hcell hbb
   obtain ⟨A3, c3, rfl⟩ := Kd.xo HS.out
   have W1i := qb.mk (show wrap64 ((i : Int) + 1) = ((i + 1 : Nat) : Int) by have := HN.out.1; unfold wrap64; omega)
   go_wp2
   go_loopg [6] (kOf s x) (fun kq v6 w' => ∃ k : Nat, v6 = .int .i64 k ∧ qb (k + kq = kOf s x) ∧ qb (Kd.R Kd.string 9 w' w.heap.size (fun _ => True) (.slice A3 s.length c3) s) ∧ qb (Below w.heap.size w w'))
   case atStart => exact ⟨0, rfl, ⟨by omega⟩, HS, HB⟩
   case round =>
    clear HS HB
    obtain ⟨k, rfl, hk, HS, HB⟩ := hrel
    cases gk with
    | zero =>
     obtain rfl : k = kOf s x := by have := hk.out; omega
     by_cases hks : kOf s x < s.length
     case' pos =>
      have q0 : (0 ≤ (kOf s x : Int)) = True := eq_true yg
      have q1 : ((kOf s x : Int) < (s.length : Int)) = True := eq_true yg
      have q2 : decide ((kOf s x : Int) < (s.length : Int)) = true := decide_eq_true yg
      obtain ⟨b1, o1, rfl, hbb, hcell⟩ := str_cells (Kd.zq HS.out).2.2 yg
      have hy := hcell (kOf s x) s[kOf s x] (List.getElem?_eq_getElem hks)
      have hf := kOf_at s x hks
      obtain ⟨y, hyd⟩ : ∃ y, y = s[kOf s x] := ⟨_, rfl⟩
      rw [← hyd] at hy hf
      unfold leB at hf
      clear hcell hbb hyd
      go_upto_region 8 with (fail)
      clear hy hf hx
      generalize (some { block := b1, off := o1 } : Option Addr) = A3 at HS ⊢
     case' neg =>
      have q1 : ((kOf s x : Int) < (s.length : Int)) = False := eq_false yg
      have q2 : decide ((kOf s x : Int) < (s.length : Int)) = false := decide_eq_false yg
      go_upto_region 8 with (fail)
      clear hx
     all_goals
      clear q1 q2
      have LEN := qb.mk (show s.length ≤ 1000000000 by have h1 := HN.out.1; have h2 := hs.out; have h3 := congrArg List.length h2; unfold insAllB at h3; rw [foldB_length] at h3; simp at h3; omega)
      have KLE := kOf_le s x
      have CAP := (Kd.zq HS.out).2.1
      have q0 : (0 ≤ (kOf s x : Int)) = True := eq_true yg
      have q1 : ((kOf s x : Int) ≤ (c3 : Int)) = True := eq_true yg
      have q3 : ((kOf s x : Int) ≤ (s.length : Int)) = True := eq_true yg
      have q4 : ((s.length : Int) ≤ (c3 : Int)) = True := eq_true yg
      have HSC := qb.mk (Kd.xv (Kd.zq HS.out).2.2 (j9 (Below.refl _ wr)))
      have HBW := qb.mk (show Below w.heap.size w wr.drew from HB.out.trans (j9 (Below.refl _ wr)))
      refine start_ (n := 12) (S := fun w' => True) (ds := []) #[false, false, false, false, false, false, false, false, false, false, false, false] yh rfl rfl trivial (fun hHeld => ?_); refine with_tabW xf.tab8 xf.bits8 (fun HT_ HW_ => ?_)
      clear hHeld
      have hHeld : True := trivial
      generalize wr.drew = Wd at HSC HBW ⊢
      have HTK := qb.mk (C_takeS HSC.out (kOf_le s x))
      have HDR := qb.mk (C_dropS (c := c3) HSC.out (kOf_le s x) (by have := CAP; omega))
      have HBd := qb.mk (Below.refl Wd.heap.size Wd)
      refine xq (i := 0) (N := (some 30)) (v := ?_) (a' := ?_) #[true, false, false, false, false, false, false, false, false, false, false, false] rfl rfl (xj HT_.out yh) (fun _ _ _ h => h) (Or.inl ⟨by rfl, ?_⟩) ?_ ?_
      rotate_left
      ·intro w'
       go_simp
       with_reducible rfl
      rotate_left
      ·simp only [Act.put, List.setIfInBounds_toArray, List.set_cons_zero, List.set_cons_succ, zo, zr]
       rfl
      refine xq (i := 1) (N := (some 31)) (v := ?_) (a' := ?_) #[true, true, false, false, false, false, false, false, false, false, false, false] rfl rfl (xj HT_.out yh) (fun _ _ _ h => h) (Or.inl ⟨by rfl, ?_⟩) ?_ ?_
      rotate_left
      ·intro w'
       go_simp
       with_reducible rfl
      rotate_left
      ·simp only [Act.put, List.setIfInBounds_toArray, List.set_cons_zero, List.set_cons_succ, zo, zr]
       rfl
      refine xq (i := 2) (N := (some 32)) (v := ?_) (a' := ?_) #[true, true, true, false, false, false, false, false, false, false, false, false] rfl rfl (xj HT_.out yh) (fun _ _ _ h => h) (Or.inl ⟨by rfl, ?_⟩) ?_ ?_
      rotate_left
      ·intro w'
       go_simp
       with_reducible rfl
      rotate_left
      ·simp only [Act.put, List.setIfInBounds_toArray, List.set_cons_zero, List.set_cons_succ, zo, zr]
       rfl
      refine xq (i := 4) (N := (some 34)) (v := ?_) (a' := ?_) #[true, true, true, false, true, false, false, false, false, false, false, false] rfl rfl (xj HT_.out yh) (fun _ _ _ h => h) (Or.inl ⟨by rfl, ?_⟩) ?_ ?_
      rotate_left
      ·intro w'
       go_simp
       with_reducible rfl
      rotate_left
      ·simp only [Act.put, List.setIfInBounds_toArray, List.set_cons_zero, List.set_cons_succ, zo, zr]
       rfl
      refine xq (i := 7) (N := (some 37)) (v := ?_) (a' := ?_) #[true, true, true, false, true, false, false, true, false, false, false, false] rfl rfl (xj HT_.out yh) (fun _ _ _ h => h) (Or.inl ⟨by rfl, ?_⟩) ?_ ?_
      rotate_left
      ·intro w'
       go_simp
       with_reducible rfl
      rotate_left
      ·simp only [Act.put, List.setIfInBounds_toArray, List.set_cons_zero, List.set_cons_succ, zo, zr]
       rfl
      refine xq (i := 8) (N := (some 38)) (v := ?_) (a' := ?_) #[true, true, true, false, true, false, false, true, true, false, false, false] rfl rfl (xj HT_.out yh) (fun _ _ _ h => h) (Or.inl ⟨by rfl, ?_⟩) ?_ ?_
      rotate_left
      ·intro w'
       go_simp
       with_reducible rfl
      rotate_left
      ·simp only [Act.put, List.setIfInBounds_toArray, List.set_cons_zero, List.set_cons_succ, zo, zr]
       rfl
      refine xq (i := 9) (N := (some 39)) (v := ?_) (a' := ?_) #[true, true, true, false, true, false, false, true, true, true, false, false] rfl rfl (xj HT_.out yh) (fun _ _ _ h => h) (Or.inl ⟨by rfl, ?_⟩) ?_ ?_
      rotate_left
      ·intro w'
       go_simp
       with_reducible rfl
      rotate_left
      ·simp only [Act.put, List.setIfInBounds_toArray, List.set_cons_zero, List.set_cons_succ, zo, zr]
       rfl
      refine join_ (σ := Value × Value) 3 #[true, true, true, true, true, true, false, true, true, true, false, false] (fun s_ => [(33, s_.1), (35, s_.2)]) (fun s_ w' => Kd.R Kd.string 9 w' Wd.heap.size (fun _ => True) s_.1 (s.take (kOf s x)) ∧ Kd.R Kd.string 9 w' Wd.heap.size (fun _ => True) s_.2 [x] ∧ Below Wd.heap.size Wd w') ?_ ?_
      rotate_left
      ·intro hCont
       refine two_ (i := 3) (j := 5) (Ni := (some 33)) (Nj := (some 35)) #[true, true, true, true, true, false, false, true, true, true, false, false] #[true, true, true, false, true, true, false, true, true, true, false, false] rfl rfl rfl rfl (two_of HT_.out yh) (by decide) (by decide) (fun K hK => ?_) (fun K hK => ?_)
       ·skip
        refine Kd.jv Kd.string (Rr := Kd.string.K Wd) (w0 := Wd) (W := Wd) Wd.heap.size (by rfl) (.const (.slice none 0 0)) (.tmp 32) 34 9 (.string ⟨#[]⟩) 16 rfl Tryz.underlying34 yh rfl (by decide) yg (.slice none 0 0) [] (s.take (kOf s x)) A3 (kOf s x) c3 (fun _ => True) (fun _ => False) rfl rfl (Kd.jx _ _ _ _ _) (Kd.xv HTK.out HBd.out) (fun x cs h => h) (fun _ hk => hk.elim) (fun _ _ => trivial) HBd.out HBd.out.size (by have := LEN.out; have := kOf_le s x; simp only [List.length_append, List.length_take, List.length_cons, List.length_nil]; omega) ?_
        intro v33 Wa1 ho hb hg hat
        rw [List.nil_append] at ho
        have H33 := qb.mk ho
        replace HBd := qb.mk hb
        clear ho hb hg hat
        refine hK.out _ _ trivial (fun hHeld => ?_)
        clear hK K
        refine jn (a' := ?_) ?_ ?_
        rotate_left
        ·show Act.put _ (some 33) _ = _
         simp only [Act.put, List.setIfInBounds_toArray, List.set_cons_zero, List.set_cons_succ, zo, zr]
         rfl
        refine one_ (i := 5) (N := (some 35)) #[true, true, true, true, true, true, false, true, true, true, false, false] rfl rfl (j8 HT_.out yh) (by decide) (fun K hK => ?_)
        refine Kd.R_lit_step (w0 := Wd) Kd.string Wd.heap.size 9 (by rfl) (N := 35) rfl (xs := ([x] : List ByteArray)) (inner := [.string x]) (ok := fun _ => True) (okp := fun _ => True) ?hr ?hp (fun _ hk => hk) trivial HBd.out HBd.out.size uf ?_
        case hr => first | (go_simp; done) | (go_simp; rfl)
        case hp => exact (Reps.one (show Kd.M Kd.string _ _ _ x [.string x] from rfl) (Reps.none _ _))
        intro v35 Wa2 ho hb hg hnew
        replace H33 := qb.mk (Kd.R_grown H33.out hg (fun _ _ => by simp [Value.ownBlock]))
        have H35 := qb.mk ho
        replace HBd := qb.mk hb
        clear ho hb hg hnew
        refine hK.out _ _ trivial (fun hHeld => ?_)
        clear hK K
        refine jn (a' := ?_) ?_ ?_
        rotate_left
        ·show Act.put _ (some 35) _ = _
         simp only [Act.put, List.setIfInBounds_toArray, List.set_cons_zero, List.set_cons_succ, zo, zr]
         rfl
        exact jn ca1 (hCont (v33, v35) _ ⟨H33.out, H35.out, HBd.out⟩)
       ·skip
        refine Kd.R_lit_step (w0 := Wd) Kd.string Wd.heap.size 9 (by rfl) (N := 35) rfl (xs := ([x] : List ByteArray)) (inner := [.string x]) (ok := fun _ => True) (okp := fun _ => True) ?hr ?hp (fun _ hk => hk) trivial HBd.out HBd.out.size uf ?_
        case hr => first | (go_simp; done) | (go_simp; rfl)
        case hp => exact (Reps.one (show Kd.M Kd.string _ _ _ x [.string x] from rfl) (Reps.none _ _))
        intro v35 Wa1 ho hb hg hnew
        have H35 := qb.mk ho
        replace HBd := qb.mk hb
        clear ho hb hg hnew
        refine hK.out _ _ trivial (fun hHeld => ?_)
        clear hK K
        refine jn (a' := ?_) ?_ ?_
        rotate_left
        ·show Act.put _ (some 35) _ = _
         simp only [Act.put, List.setIfInBounds_toArray, List.set_cons_zero, List.set_cons_succ, zo, zr]
         rfl
        refine one_ (i := 3) (N := (some 33)) #[true, true, true, true, true, true, false, true, true, true, false, false] rfl rfl (j8 HT_.out yh) (by decide) (fun K hK => ?_)
        refine Kd.jv Kd.string (Rr := Kd.string.K Wa1) (w0 := Wd) (W := Wa1) Wd.heap.size (by rfl) (.const (.slice none 0 0)) (.tmp 32) 34 9 (.string ⟨#[]⟩) 16 rfl Tryz.underlying34 yh rfl (by decide) yg (.slice none 0 0) [] (s.take (kOf s x)) A3 (kOf s x) c3 (fun _ => True) (fun _ => False) rfl rfl (Kd.jx _ _ _ _ _) (Kd.xv HTK.out HBd.out) (fun x cs h => h) (fun _ hk => hk.elim) (fun _ _ => trivial) HBd.out HBd.out.size (by have := LEN.out; have := kOf_le s x; simp only [List.length_append, List.length_take, List.length_cons, List.length_nil]; omega) ?_
        intro v33 Wa2 ho hb hg hat
        rw [List.nil_append] at ho
        replace H35 := qb.mk (Kd.R_grown H35.out hg (fun _ _ => by simp [Value.ownBlock]))
        have H33 := qb.mk ho
        replace HBd := qb.mk hb
        clear ho hb hg hat
        refine hK.out _ _ trivial (fun hHeld => ?_)
        clear hK K
        refine jn (a' := ?_) ?_ ?_
        rotate_left
        ·show Act.put _ (some 33) _ = _
         simp only [Act.put, List.setIfInBounds_toArray, List.set_cons_zero, List.set_cons_succ, zo, zr]
         rfl
        exact jn ca1 (hCont (v33, v35) _ ⟨H33.out, H35.out, HBd.out⟩)
      rintro ⟨v33, v35⟩ Wb ⟨h33, h35, hbd⟩
      dsimp only at h33 h35 ⊢
      replace HBd := qb.mk hbd
      have H33 := qb.mk h33
      have H35 := qb.mk h35
      clear hbd h33 h35
      obtain ⟨A35, c35, rfl⟩ := Kd.xo H35.out
      refine jn (a' := ?_) ?_ ?_
      rotate_left
      ·simp only [putAll, Act.put, List.setIfInBounds_toArray, List.set_cons_zero, List.set_cons_succ]
       rfl
      refine one_ (i := 6) (N := some 36) #[true, true, true, true, true, true, true, true, true, true, false, false] rfl rfl (j8 HT_.out yh) (by decide) (fun K hK => ?_)
      refine Kd.jv Kd.string (Rr := Kd.string.K Wb) (w0 := Wd) (W := Wb) Wd.heap.size (by rfl) (.tmp 33) (.tmp 35) 34 9 (.string ⟨#[]⟩) 16 rfl Tryz.underlying34 yh rfl (by decide) yg v33 (s.take (kOf s x)) [x] A35 ([x] : List ByteArray).length c35 (fun _ => True) (fun _ => False) rfl rfl H33.out (Kd.zq H35.out).2.2 (fun x cs h => h) (fun _ hk => hk.elim) (fun _ _ => trivial) HBd.out HBd.out.size (by have := LEN.out; have := kOf_le s x; simp only [List.length_append, List.length_take, List.length_cons, List.length_nil]; omega) ?_
      intro v36 Wc ho hb hg hat
      have H36 := qb.mk ho
      replace HBd := qb.mk hb
      clear ho hb hg hat H33 H35
      refine hK.out _ _ trivial (fun hHeld => ?_)
      clear hK K
      refine jn (a' := ?_) ?_ ?_
      rotate_left
      ·show Act.put _ (some 36) _ = _
       simp only [Act.put, List.setIfInBounds_toArray, List.set_cons_zero, List.set_cons_succ, zo, zr]
       rfl
      refine one_ (i := 10) (N := some 40) #[true, true, true, true, true, true, true, true, true, true, true, false] rfl rfl (j8 HT_.out yh) (by decide) (fun K hK => ?_)
      refine Kd.jv Kd.string (Rr := Kd.string.K Wc) (w0 := Wd) (W := Wc) Wd.heap.size (by rfl) (.tmp 36) (.tmp 39) 34 9 (.string ⟨#[]⟩) 16 rfl Tryz.underlying34 yh rfl (by decide) yg v36 (s.take (kOf s x) ++ [x]) (s.drop (kOf s x)) (if c3 = kOf s x then A3 else A3.map (·.add (kOf s x))) (s.length - kOf s x) (c3 - kOf s x) (fun _ => True) (fun _ => False) rfl rfl H36.out (Kd.xv HDR.out HBd.out) (fun x cs h => h) (fun _ hk => hk.elim) (fun _ _ => trivial) HBd.out HBd.out.size (by have := LEN.out; have := kOf_le s x; simp only [List.length_append, List.length_take, List.length_cons, List.length_nil]; omega) ?_
      intro v40 We ho hb hg hat
      have H40 := qb.mk ho
      replace HBd := qb.mk hb
      clear ho hb hg hat H36
      refine hK.out _ _ trivial (fun hHeld => ?_)
      clear hK K
      refine jn (a' := ?_) ?_ ?_
      rotate_left
      ·show Act.put _ (some 40) _ = _
       simp only [Act.put, List.setIfInBounds_toArray, List.set_cons_zero, List.set_cons_succ, zo, zr]
       rfl
      refine xq (i := 11) (N := (some 3)) (v := ?_) (a' := ?_) #[true, true, true, true, true, true, true, true, true, true, true, true] rfl rfl (xj HT_.out yh) (fun _ _ _ h => h) (Or.inl ⟨by rfl, ?_⟩) ?_ ?_
      rotate_left
      ·intro w'
       go_simp
       with_reducible rfl
      rotate_left
      ·simp only [Act.put, List.setIfInBounds_toArray, List.set_cons_zero, List.set_cons_succ, zo, zr]
       rfl
      refine done_ (done_of HT_.out yh) ?_
      have HI := qb.mk (show Kd.R Kd.string 9 We w.heap.size (fun _ => True) v40 (insB s x) from Kd.kn H40.out HBW.out.size)
      have HBn := qb.mk (show Below w.heap.size w We from qm HBW.out HBd.out)
      clear H40 HBd HBW HTK HDR HSC HS HB KLE CAP q0 q3 q4 hHeld
      generalize (if c3 = kOf s x then A3 else A3.map (·.add (kOf s x))) = A39
      go_wp2
      go_roundg k1
      case measure => omega
      case rel => exact ⟨i + 1, insB s x, by rw [W1i.out], ⟨by have := hi.out; omega⟩, ⟨by rw [List.take_add_one, List.getElem?_eq_getElem hlt0, ← HX.out, Option.toList_some]; unfold insAllB; rw [List.foldl_append, hs.out]; rfl⟩, HI, HBn⟩
    | succ k2 =>
     have hks : k < s.length := by have := kOf_le s x; have := hk.out; omega
     have q0 : (0 ≤ (k : Int)) = True := eq_true yg
     have q1 : ((k : Int) < (s.length : Int)) = True := eq_true yg
     have q2 : decide ((k : Int) < (s.length : Int)) = true := decide_eq_true yg
     obtain ⟨b1, o1, rfl, hbb, hcell⟩ := str_cells (Kd.zq HS.out).2.2 yg
     have hy := hcell k s[k] (List.getElem?_eq_getElem hks)
     obtain ⟨y, hyd⟩ : ∃ y, y = s[k] := ⟨_, rfl⟩
     rw [← hyd] at hy
     clear hcell hbb
     have hf := kOf_lt s x k hks (by have := hk.out; omega)
     rw [← hyd] at hf
     unfold leB at hf
     clear hyd
     have WK := qb.mk (show wrap64 ((k : Int) + 1) = ((k + 1 : Nat) : Int) by have := kOf_le s x; have h9 : s.length ≤ 9223372036854775807 := (Kd.zq HS.out).2.2.2.1; unfold wrap64; omega)
     go_wp2
     go_roundg k2
     case measure => omega
     case rel => exact ⟨k + 1, by rw [WK.out], ⟨by have := hk.out; omega⟩, HS, HB⟩
end Go.Proofs.YthdoohfdminfgaaGreatDoor.C
end
section
namespace Go.Proofs.YthdoohfdminfgaaGreatDoor.C
open Go.RowKit Go.Proofs.YthdoohfdminfgaaGreatDoorW.PrintWords Go.Proofs.YthdoohfdminfgaaGreatDoorW.PrintLast Go.Proofs.YthdoohfdminfgaaGreatDoorW.PrintMore
attribute [local go_sem] kc xy kr ks xh xg xz xx
set_option linter.unusedVariables false
set_option linter.unusedSimpArgs false
mutual
def qq.l0 : Nat → List Int → List Int → Int → Int → Option (ByteArray × Int)
 | 0, _, _, _, _ => none
 | k + 1, x6, x30, x31, x32 => if x32 < x31 then (if 0 ≤ x32 then (if x32 < (x30.length : Int) then (qq.l1 k x6 (rd x30 x32) ([] : List Int) x30 x31 x32) else (none)) else (none)) else (some (strOfNums x6, 0))
def qq.l1 : Nat → List Int → Int → List Int → List Int → Int → Int → Option (ByteArray × Int)
 | 0, _, _, _, _, _, _ => none
 | k + 1, x6, x8, x9, x30, x31, x32 => (some (([(Int.tmod x8 128) % 256] : List Int) : List Int)).bind fun y387 => (if y387.length + x9.length < 140737488355328 then ((some (y387 ++ x9 : List Int)).bind fun y390 => (if (wrap64 (Int.tdiv x8 128)) = 0 then (qq.l2 k x6 y390 0 x30 x31 x32) else (qq.l1 k x6 (wrap64 (Int.tdiv x8 128)) y390 x30 x31 x32))) else (none))
def qq.l2 : Nat → List Int → List Int → Int → List Int → Int → Int → Option (ByteArray × Int)
 | 0, _, _, _, _, _, _ => none
 | k + 1, x6, x9, x10, x30, x31, x32 => if (wrap64 (x10 + 1)) < (x9.length : Int) then (if 0 ≤ x10 then (if x10 < (x9.length : Int) then (qq.l2 k x6 (x9.set (x10 : Int).toNat (((rd x9 x10) + 128) % 256)) (wrap64 (x10 + 1)) x30 x31 x32) else (none)) else (none)) else (if x6.length + x9.length < 140737488355328 then (qq.l0 k (x6 ++ x9) x30 x31 (wrap64 (x32 + 1))) else (none))
end
def qq.f (k : Nat) (a0 : ByteArray) : Option (ByteArray × Int) := (ql.f k a0).bind fun bt370 => (if bt370.2 = true then (if 0 < (bt370.1.length : Int) then (if 1 < (bt370.1.length : Int) then ((some (([wrap64 ((wrap64 (40 * (rd bt370.1 0))) + (rd bt370.1 1))] : List Int) : List Int)).bind fun y376 => (if 2 ≤ (bt370.1.length : Int) then ((some (bt370.1.drop 2 : List Int)).bind fun y379 => (if y376.length + y379.length < 17592186044416 then ((some (y376 ++ y379 : List Int)).bind fun y383 => (qq.l0 k ([] : List Int) y383 (y383.length : Int) 0)) else (none))) else (none))) else (none)) else (none)) else (some ((⟨#[]⟩ : ByteArray), 11)))
theorem qq.xl : ∀ k, (∀ y0 y1 y2 y3, LeO (qq.l0 k y0 y1 y2 y3) (qq.l0 (k + 1) y0 y1 y2 y3)) ∧ (∀ y0 y1 y2 y3 y4 y5, LeO (qq.l1 k y0 y1 y2 y3 y4 y5) (qq.l1 (k + 1) y0 y1 y2 y3 y4 y5)) ∧ (∀ y0 y1 y2 y3 y4 y5, LeO (qq.l2 k y0 y1 y2 y3 y4 y5) (qq.l2 (k + 1) y0 y1 y2 y3 y4 y5))
 | 0 => ⟨fun _ _ _ _ r h => by simp [qq.l0] at h, fun _ _ _ _ _ _ r h => by simp [qq.l1] at h, fun _ _ _ _ _ _ r h => by simp [qq.l2] at h⟩
 | k + 1 => by
  obtain ⟨ih0, ih1, ih2⟩ := qq.xl k
  refine ⟨?_, ?_, ?_⟩
  ·intro y0 y1 y2 y3
   unfold qq.l0
   repeat' first
   | (with_reducible exact ih0 _ _ _ _)
   | (with_reducible exact ih1 _ _ _ _ _ _)
   | (with_reducible exact ih2 _ _ _ _ _ _)
   | (with_reducible exact ql.mono _ _)
   | (with_reducible exact LeO.refl _)
   | (with_reducible exact LeO.none _)
   | (with_reducible refine LeO.ite ?_ ?_)
   | (with_reducible refine LeO.bind ?_ (fun _ => ?_))
  ·intro y0 y1 y2 y3 y4 y5
   unfold qq.l1
   repeat' first
   | (with_reducible exact ih0 _ _ _ _)
   | (with_reducible exact ih1 _ _ _ _ _ _)
   | (with_reducible exact ih2 _ _ _ _ _ _)
   | (with_reducible exact ql.mono _ _)
   | (with_reducible exact LeO.refl _)
   | (with_reducible exact LeO.none _)
   | (with_reducible refine LeO.ite ?_ ?_)
   | (with_reducible refine LeO.bind ?_ (fun _ => ?_))
  ·intro y0 y1 y2 y3 y4 y5
   unfold qq.l2
   repeat' first
   | (with_reducible exact ih0 _ _ _ _)
   | (with_reducible exact ih1 _ _ _ _ _ _)
   | (with_reducible exact ih2 _ _ _ _ _ _)
   | (with_reducible exact ql.mono _ _)
   | (with_reducible exact LeO.refl _)
   | (with_reducible exact LeO.none _)
   | (with_reducible refine LeO.ite ?_ ?_)
   | (with_reducible refine LeO.bind ?_ (fun _ => ?_))
theorem qq.mono : ∀ a0 k, LeO (qq.f k a0) (qq.f (k + 1) a0) := by
 intro a0 k
 obtain ⟨ih0, ih1, ih2⟩ := qq.xl k
 unfold qq.f
 repeat' first
   | (with_reducible exact ih0 _ _ _ _)
   | (with_reducible exact ih1 _ _ _ _ _ _)
   | (with_reducible exact ih2 _ _ _ _ _ _)
   | (with_reducible exact ql.mono _ _)
   | (with_reducible exact LeO.refl _)
   | (with_reducible exact LeO.none _)
   | (with_reducible refine LeO.ite ?_ ?_)
   | (with_reducible refine LeO.bind ?_ (fun _ => ?_))
def qq.T4 : Bool × List (List Nat × List Nat) := (true, [([], []), ([0], [0]), ([1], [1]), ([2], [2]), ([], []), ([4], [4]), ([5], [5]), ([3, 6], [3, 6]), ([7], [7]), ([], []), ([9], [9]), ([8, 10], [8, 10]), ([11, 11, 0, 1, 2, 3, 4, 5, 6, 7, 8, 9, 10, 11], [0, 4, 9, 11])])
def qq.B4 : List Nat := [0, 1, 3, 7, 0, 16, 48, 127, 255, 0, 512, 2047, 4095]
theorem qq.tab4 : rtab .any (opsOf Tryz.f96 4) = qq.T4 := by kernel_rfl
theorem qq.bits4 : waitsOk qq.T4.2 qq.B4 = true := by kernel_rfl
set_option maxHeartbeats 8000000 in
set_option maxRecDepth 100000 in
theorem qq.calls (k : Nat) (a0 : ByteArray) (r1 : ByteArray) (r2 : Int) (w : World) (h : qq.f k a0 = some (r1, r2)) :
  Calls Tryz.prog 96 #[.string a0] w fun e w' => e = .returned (.tuple #[.string r1, .int .i64 r2]) ∧ Below w.heap.size w w' := by
 have HB := qb.mk (Below.refl w.heap.size w)
 have H : ((ql.f k a0).bind fun bt370 => (if bt370.2 = true then (if 0 < (bt370.1.length : Int) then (if 1 < (bt370.1.length : Int) then ((some (([wrap64 ((wrap64 (40 * (rd bt370.1 0))) + (rd bt370.1 1))] : List Int) : List Int)).bind fun y376 => (if 2 ≤ (bt370.1.length : Int) then ((some (bt370.1.drop 2 : List Int)).bind fun y379 => (if y376.length + y379.length < 17592186044416 then ((some (y376 ++ y379 : List Int)).bind fun y383 => (qq.l0 k ([] : List Int) y383 (y383.length : Int) 0)) else (none))) else (none))) else (none)) else (none)) else (some ((⟨#[]⟩ : ByteArray), 11)))) = some (r1, r2) := h
 clear h
 replace H := Option.bind_eq_some_iff.mp H
 obtain ⟨⟨t370, t371⟩, A20, H⟩ := H
 replace H : (if t371 = true then (if 0 < (t370.length : Int) then (if 1 < (t370.length : Int) then ((some (([wrap64 ((wrap64 (40 * (rd t370 0))) + (rd t370 1))] : List Int) : List Int)).bind fun y376 => (if 2 ≤ (t370.length : Int) then ((some (t370.drop 2 : List Int)).bind fun y379 => (if y376.length + y379.length < 17592186044416 then ((some (y376 ++ y379 : List Int)).bind fun y383 => (qq.l0 k ([] : List Int) y383 (y383.length : Int) 0)) else (none))) else (none))) else (none)) else (none)) else (some ((⟨#[]⟩ : ByteArray), 11))) = some (r1, r2) := H
 have A2 := qb.mk A20
 clear A20
 by_cases c3 : t371 = true
 ·subst c3
  have H1 : (if 0 < (t370.length : Int) then (if 1 < (t370.length : Int) then ((some (([wrap64 ((wrap64 (40 * (rd t370 0))) + (rd t370 1))] : List Int) : List Int)).bind fun y376 => (if 2 ≤ (t370.length : Int) then ((some (t370.drop 2 : List Int)).bind fun y379 => (if y376.length + y379.length < 17592186044416 then ((some (y376 ++ y379 : List Int)).bind fun y383 => (qq.l0 k ([] : List Int) y383 (y383.length : Int) 0)) else (none))) else (none))) else (none)) else (none)) = some (r1, r2) := by rw [if_pos rfl] at H; exact H
  clear H
  have H := H1
  clear H1
  by_cases c4 : 0 < (t370.length : Int)
  ·rw [if_pos c4] at H
   have c4b0 : decide (0 < (t370.length : Int)) = true := decide_eq_true c4
   have c4b1 : decide (0 < t370.length) = true := decide_eq_true yg
   clear c4
   by_cases c5 : 1 < (t370.length : Int)
   ·rw [if_pos c5] at H
    have c5b0 : decide (1 < (t370.length : Int)) = true := decide_eq_true c5
    have c5b1 : decide (1 < t370.length) = true := decide_eq_true yg
    clear c5
    obtain ⟨y376, hy376⟩ : ∃ y_ : List Int, y_ = (([wrap64 ((wrap64 (40 * (rd t370 0))) + (rd t370 1))] : List Int)) := ⟨_, rfl⟩
    replace H : (if 2 ≤ (t370.length : Int) then ((some (t370.drop 2 : List Int)).bind fun y379 => (if y376.length + y379.length < 17592186044416 then ((some (y376 ++ y379 : List Int)).bind fun y383 => (qq.l0 k ([] : List Int) y383 (y383.length : Int) 0)) else (none))) else (none)) = some (r1, r2) := by first | (rw [hy376]; with_reducible exact H) | (have H2_ := (Option.bind_some _ _).symm.trans H; rw [hy376]; with_reducible exact H2_) | (have H2_ := (Option.bind_some _ _).symm.trans H; with_reducible exact H2_) | with_reducible exact H | (rw [hy376]; exact H) | exact H
    have Ny376 := qb.mk hy376
    clear hy376
    by_cases c6 : 2 ≤ (t370.length : Int)
    ·rw [if_pos c6] at H
     have c6b0 := eq_true c6
     have c6b1 : decide (2 ≤ (t370.length : Int)) = true := decide_eq_true c6
     clear c6
     obtain ⟨y379, hy379⟩ : ∃ y_ : List Int, y_ = (t370.drop 2) := ⟨_, rfl⟩
     replace H : (if y376.length + y379.length < 17592186044416 then ((some (y376 ++ y379 : List Int)).bind fun y383 => (qq.l0 k ([] : List Int) y383 (y383.length : Int) 0)) else (none)) = some (r1, r2) := by first | (rw [hy379]; with_reducible exact H) | (have H2_ := (Option.bind_some _ _).symm.trans H; rw [hy379]; with_reducible exact H2_) | (have H2_ := (Option.bind_some _ _).symm.trans H; with_reducible exact H2_) | with_reducible exact H | (rw [hy379]; exact H) | exact H
     have Ny379 := qb.mk hy379
     clear hy379
     by_cases c7 : y376.length + y379.length < 17592186044416
     ·rw [if_pos c7] at H
      have LMc7 := qb.mk c7
      clear c7
      obtain ⟨y383, hy383⟩ : ∃ y_ : List Int, y_ = (y376 ++ y379) := ⟨_, rfl⟩
      replace H : (qq.l0 k ([] : List Int) y383 (y383.length : Int) 0) = some (r1, r2) := by first | (rw [hy383]; with_reducible exact H) | (have H2_ := (Option.bind_some _ _).symm.trans H; rw [hy383]; with_reducible exact H2_) | (have H2_ := (Option.bind_some _ _).symm.trans H; with_reducible exact H2_) | with_reducible exact H | (rw [hy383]; exact H) | exact H
      have Ny383 := qb.mk hy383
      clear hy383
      have H' := qb.mk H
      clear H
      go_enter Tryz.func96, Tryz.ntmps96
      try go_wp2_with (first | ((with_reducible refine zl (f := 108) rfl ?_); refine xk (some 13) rfl rfl Tryz.func108 yh rfl #[.string a0] rfl cz ?_; (with_reducible refine (ql.calls k a0 t370 true _ A2.out).mono ?_); rintro e w8 ⟨v372, rfl, ho0, hb⟩; refine ⟨_, rfl, ?_⟩; have n0_ := qb.mk (Kd.kn ho0 (qp cu)); have n1_ := qb.mk (qm cu hb); clear HB; have HO373 := n0_; have HB := n1_; clear n0_ n1_; (try clear hb); (try clear hb2); (try clear hk); (try clear hi); (try clear ho0)))
      have n0_ := qb.mk (Kd.qz HO373.out)
      have n1_ := qb.mk (qd HB.out)
      clear HO373
      clear HB
      have HO373 := n0_
      have HB := n1_
      clear n0_ n1_
      obtain ⟨Ao10, co10, eo10⟩ := Kd.xo HO373.out
      (first | subst eo10 | (injection eo10 with f1_ f2_ f3_; have f4_ := f1_.symm; have f5_ := f3_.symm; clear f1_ f2_ f3_; subst f4_; subst f5_))
      have p374 : 0 ≤ (0 : Int) := yg
      have q374 : 0 < (t370.length : Int) := of_decide_eq_true yc
      obtain ⟨ad374, e374, hx374_0⟩ := Kd.at_int (Kd.zq HO373.out).2.2 0 p374 q374
      cases e374
      have qi374 : (0 < t370.length) = True := eq_true yg
      (try rw [show ((0 : Int)).toNat = 0 from rfl] at hx374_0)
      (try rw [Addr.add_zero'] at hx374_0)
      replace p374 := eq_true p374
      replace q374 := eq_true q374
      have p375 : 0 ≤ (1 : Int) := yg
      have q375 : 1 < (t370.length : Int) := of_decide_eq_true yc
      obtain ⟨ad375, e375, hx375_0⟩ := Kd.at_int (Kd.zq HO373.out).2.2 1 p375 q375
      obtain rfl : ad374 = ad375 := (by injection e375)
      (try simp only [show (1 : Int).toNat = 1 from rfl, Nat.reduceMul, Nat.reduceEqDiff, Go.Addr.add, ↓reduceIte] at hx375_0)
      have qi375 : (1 < t370.length) = True := eq_true yg
      (try rw [show ((1 : Int)).toNat = 1 from rfl] at hx375_0)
      replace p375 := eq_true p375
      replace q375 := eq_true q375
      have q11 : (2 : Int) ≤ ((t370.length : Int) : Int) := of_decide_eq_true yc
      obtain ⟨i011, hi011, _, hsz11, _⟩ := info_parts info3
      have hroom11 : t370.length ≤ co10 := (Kd.zq HO373.out).2.1
      have hC11 : Kd.C (Kd.int .i64) _ (some ad374) t370.length t370 := (Kd.zq HO373.out).2.2
      have hcut11 := cut_from (P := Tryz.prog) 22 3 .i64 Tryz.underlying22 hi011 1 hsz11 (some ad374) t370.length co10 2 yg q11
      have hr11 := Kd.C_drop (m := (2 : Int).toNat) (c := co10) hC11 yg hroom11
      obtain ⟨A11, hA11⟩ : ∃ A1, A1 = (if co10 = (2 : Int).toNat then (some ad374) else ((some ad374) : Option Addr).map (·.add ((2 : Int).toNat * 1))) := ⟨_, rfl⟩
      obtain ⟨c11, hc11⟩ : ∃ c1, c1 = co10 - (2 : Int).toNat := ⟨_, rfl⟩
      have hy11 : y379.length = t370.length - (2 : Int).toNat := (by rw [Ny379.out, List.length_drop] <;> omega)
      rw [show (t370).drop (2 : Int).toNat = y379 from Ny379.out.symm] at hr11
      replace hr11 : Kd.C (Kd.int .i64) _ A11 y379.length y379 := (by rw [hA11]; exact hr11)
      rw [← hy11, ← hA11, ← hc11] at hcut11
      have HR382 := qb.mk hr11
      have HC382 := qb.mk (show y379.length ≤ c11 from by rw [hy11, hc11]; exact Nat.sub_le_sub_right hroom11 _)
      clear hr11 hC11 hroom11 hi011 hsz11 hc11
      have KY11 := qb.mk hy11
      have KA11 := qb.mk hA11
      clear hy11 hA11
      have KL11 := qb.mk (show 2 ≤ t370.length from by omega)
      replace q11 := eq_true q11
      refine start_ (n := 13) (S := fun w' => w'.cell? ad374 = some (.int .i64 (rd t370 0)) ∧ w'.cell? ⟨ad374.block, ad374.off + 1, none⟩ = some (.int .i64 (rd t370 1))) (ds := [11]) #[false, false, false, false, false, false, false, false, false, false, false, false, false] yh rfl rfl ⟨hx374_0, hx375_0⟩ (fun hHeld => ?_); refine with_tabW qq.tab4 qq.bits4 (fun HT_ HW_ => ?_)
      generalize w8.drew = w9 at HO373 HB HR382 hx374_0 hx375_0 hHeld ⊢
      refine xq (i := 0) (N := some 18) (v := ?_) (a' := ?_) #[true, false, false, false, false, false, false, false, false, false, false, false, false] rfl rfl (xj HT_.out yh) (fun _ _ _ h => h) (Or.inl ⟨by rfl, ?_⟩) ?_ ?_
      rotate_left
      ·intro w'
       go_simp
       with_reducible rfl
      rotate_left
      ·simp only [Act.put, List.setIfInBounds_toArray, List.set_cons_zero, List.set_cons_succ, zo, zr]
       rfl
      refine xq (i := 1) (N := some 19) (v := ?_) (a' := ?_) #[true, true, false, false, false, false, false, false, false, false, false, false, false] rfl rfl (xj HT_.out yh) (fun _ _ _ h => h) (Or.inl ⟨by rfl, ?_⟩) ?_ ?_
      rotate_left
      ·intro w'
       go_simp
       with_reducible rfl
      rotate_left
      ·simp only [Act.put, List.setIfInBounds_toArray, List.set_cons_zero, List.set_cons_succ, zo, zr]
       rfl
      refine xq (i := 4) (N := some 22) (v := ?_) (a' := ?_) #[true, true, false, false, true, false, false, false, false, false, false, false, false] rfl rfl (xj HT_.out yh) (fun _ _ _ h => h) (Or.inl ⟨by rfl, ?_⟩) ?_ ?_
      rotate_left
      ·intro w'
       go_simp
       with_reducible rfl
      rotate_left
      ·simp only [Act.put, List.setIfInBounds_toArray, List.set_cons_zero, List.set_cons_succ, zo, zr]
       rfl
      refine xq (i := 5) (N := some 23) (v := ?_) (a' := ?_) #[true, true, false, false, true, true, false, false, false, false, false, false, false] rfl rfl (xj HT_.out yh) (fun _ _ _ h => h) (Or.inl ⟨by rfl, ?_⟩) ?_ ?_
      rotate_left
      ·intro w'
       go_simp
       with_reducible rfl
      rotate_left
      ·simp only [Act.put, List.setIfInBounds_toArray, List.set_cons_zero, List.set_cons_succ, zo, zr]
       rfl
      refine xq (i := 9) (N := some 27) (v := ?_) (a' := ?_) #[true, true, false, false, true, true, false, false, false, true, false, false, false] rfl rfl (xj HT_.out yh) (fun _ _ _ h => h) (Or.inl ⟨by rfl, ?_⟩) ?_ ?_
      rotate_left
      ·intro w'
       go_simp
       with_reducible rfl
      rotate_left
      ·simp only [Act.put, List.setIfInBounds_toArray, List.set_cons_zero, List.set_cons_succ, zo, zr]
       rfl
      refine xq (i := 10) (N := some 28) (v := ?_) (a' := ?_) #[true, true, false, false, true, true, false, false, false, true, true, false, false] rfl rfl (xj HT_.out yh) (fun _ _ _ h => h) (Or.inl ⟨by rfl, ?_⟩) ?_ ?_
      rotate_left
      ·intro w'
       go_simp
       with_reducible rfl
      rotate_left
      ·simp only [Act.put, List.setIfInBounds_toArray, List.set_cons_zero, List.set_cons_succ, zo, zr]
       rfl
      refine take_ (i := 2) (N := some 20) (v := ?_) (a' := ?_) #[true, true, true, false, true, true, false, false, false, true, true, false, false] rfl rfl (jb HT_.out HW_.out yh) (fun _ _ _ h => h) (Or.inl ⟨by rfl, ?_⟩) hHeld ?_ ?_
      rotate_left
      ·rintro w' ⟨s0, s1⟩
       go_simp
       with_reducible rfl
      rotate_left
      ·simp only [Act.put, List.setIfInBounds_toArray, List.set_cons_zero, List.set_cons_succ, zo, zr]
       rfl
      refine xq (i := 3) (N := some 21) (v := ?_) (a' := ?_) #[true, true, true, true, true, true, false, false, false, true, true, false, false] rfl rfl (xj HT_.out yh) (fun _ _ _ h => h) (Or.inl ⟨by rfl, ?_⟩) ?_ ?_
      rotate_left
      ·intro w'
       go_simp
       with_reducible rfl
      rotate_left
      ·simp only [Act.put, List.setIfInBounds_toArray, List.set_cons_zero, List.set_cons_succ, zo, zr]
       rfl
      refine take_ (i := 6) (N := some 24) (v := ?_) (a' := ?_) #[true, true, true, true, true, true, true, false, false, true, true, false, false] rfl rfl (jb HT_.out HW_.out yh) (fun _ _ _ h => h) (Or.inl ⟨by rfl, ?_⟩) hHeld ?_ ?_
      rotate_left
      ·rintro w' ⟨s0, s1⟩
       go_simp
       with_reducible rfl
      rotate_left
      ·simp only [Act.put, List.setIfInBounds_toArray, List.set_cons_zero, List.set_cons_succ, zo, zr]
       rfl
      refine xq (i := 7) (N := some 25) (v := ?_) (a' := ?_) #[true, true, true, true, true, true, true, true, false, true, true, false, false] rfl rfl (xj HT_.out yh) (fun _ _ _ h => h) (Or.inl ⟨by rfl, ?_⟩) ?_ ?_
      rotate_left
      ·intro w'
       go_simp
       with_reducible rfl
      rotate_left
      ·simp only [Act.put, List.setIfInBounds_toArray, List.set_cons_zero, List.set_cons_succ, zo, zr]
       rfl
      refine one_ (i := 8) (N := some 26) #[true, true, true, true, true, true, true, true, true, true, true, false, false] rfl rfl (j8 HT_.out yh) (by decide) (fun K hK => ?_)
      refine Kd.R_lit_step (Kd.int .i64) _ 3 ?hg (N := 26) ?hd (xs := ([wrap64 ((wrap64 (40 * (rd t370 0))) + (rd t370 1))] : List Int)) (inner := [.int .i64 (wrap64 ((wrap64 (40 * (rd t370 0))) + (rd t370 1)))]) (ok := fun _ => True) (okp := fun _ => True) ?hr ?hp (fun _ hk => hk) trivial (Below.refl _ _) (Nat.le_refl _) uf ?_; (case hd => rfl); (case hg => rfl); (case hr => first | (go_simp; done) | (go_simp; rfl)); (case hp => exact (Reps.one (show Kd.M (Kd.int .i64) _ _ _ (wrap64 ((wrap64 (40 * (rd t370 0))) + (rd t370 1))) [.int .i64 (wrap64 ((wrap64 (40 * (rd t370 0))) + (rd t370 1)))] from rfl) (Reps.none _ _)))
      intro v377 w12 ho13 hb hg_ hnew_
      have HS0_ := (hb.cell (World.block_lt_of_cell? _ _ (hHeld.1))).trans (hHeld.1)
      have HS1_ := (hb.cell (World.block_lt_of_cell? _ _ (hHeld.2))).trans (hHeld.2)
      clear hg_ hnew_
      (first | rw [← Ny376.out] at ho13 | (simp only [Int.reduceToNat] at ho13; rw [← Ny376.out] at ho13))
      have n0_ := qb.mk (Kd.k6 cam (Kd.je ho13) hb)
      have n1_ := qb.mk (Kd.kn (Kd.jm ho13 (Kd.R_lt cam)) (qp cu))
      have n2_ := qb.mk (Kd.xv cbg hb)
      have n3_ := qb.mk (qm cu hb)
      clear HO373
      clear HR382
      clear HB
      have HO373 := n0_
      have HO378 := n1_
      have HR382 := n2_
      have HB := n3_
      clear n0_ n1_ n2_ n3_
      clear hb ho13
      refine hK.out _ _ ⟨HS0_, HS1_⟩ (fun hHeld => ?_)
      clear hK K
      refine jn (a' := ?_) ?_ ?_
      rotate_left
      ·show Act.put _ (some 26) _ = _
       simp only [Act.put, List.setIfInBounds_toArray, List.set_cons_zero, List.set_cons_succ, zo, zr]
       rfl
      refine last_ (i := 11) (N := some 29) #[true, true, true, true, true, true, true, true, true, true, true, true, false] rfl rfl (j8 HT_.out yh) (by decide) (fun K hK => ?_)
      refine Kd.jv (Kd.int .i64) (w0 := w) w.heap.size (by rfl) (.tmp 26) (.tmp 28) 22 3 (.int .i64 0) 8 rfl Tryz.underlying22 info3 rfl (by decide) yg v377 y376 y379 _ _ _ (fun k_ => some k_ ≠ (.slice (some ad374) t370.length co10 : Value).ownBlock) (fun _ => False) rfl rfl ?aO ?aR (fun _ _ h => h) (fun _ h => h.elim) ?aF ?aB ?aS ?aL ?_
      (case aR => repeat (first | exact cbg | (with_reducible refine Kd.xr ?_ _) | (with_reducible refine Kd.xt ?_ _) | (with_reducible refine Kd.kp ?_)))
      (case aB => exact cu)
      (case aF => exact (fun k_ hk => Kd.fresh' (Kd.R_lt cam) k_ hk))
      (case aO => exact (by (with_reducible repeat (first | apply Kd.qw | apply Kd.qv | apply Kd.qz)); exact Kd.xn HO378.out (fun _ hk => hk.2)))
      (case aS => exact (qp cu))
      (case aL => have := LMc7.out; omega)
      intro v384 w14 ho hb hg hat
      rw [← Ny383.out] at ho
      have n0_ := qb.mk (Kd.jy (ok := (fun _ => True)) cam hg hat)
      have n1_ := qb.mk (hb)
      have n2_ := qb.mk ((show Kd.C (Kd.int .i64) w14 A11 y379.length y379 from by rw [Ny379.out, KA11.out]; exact Kd.C_drop (m := 2) (c := co10) ((Kd.zq (Kd.jy (ok := (fun _ => True)) cam hg hat)).2.2) KL11.out ((Kd.zq (Kd.jy (ok := (fun _ => True)) cam hg hat)).2.1)))
      have n3_ := qb.mk (ho)
      clear HO373
      clear HB
      clear HR382
      clear HO378
      have HO373 := n0_
      have HB := n1_
      have HR382 := n2_
      have HO385 := n3_
      clear n0_ n1_ n2_ n3_
      clear ho hb hg hat
      refine hK.out _ _ ?_
      clear hK K
      refine jn (a' := ?_) ?_ ?_
      rotate_left
      ·show Act.put _ (some 29) _ = _
       simp only [Act.put, List.setIfInBounds_toArray, List.set_cons_zero, List.set_cons_succ, zo, zr]
       rfl
      refine xq (i := 12) (N := some 4) (v := ?_) (a' := ?_) #[true, true, true, true, true, true, true, true, true, true, true, true, true] rfl rfl (xj HT_.out yh) (fun _ _ _ h => h) (Or.inl ⟨by rfl, ?_⟩) ?_ ?_
      rotate_left
      ·intro w'
       go_simp
       with_reducible rfl
      rotate_left
      ·simp only [Act.put, List.setIfInBounds_toArray, List.set_cons_zero, List.set_cons_succ, zo, zr]
       rfl
      refine done_ (done_of HT_.out yh) ?_
      obtain ⟨Ao15, co15, eo15⟩ := Kd.xo HO385.out
      subst eo15
      try go_wp2
      go_loopg [6, 32] k (fun kq v6 v32 w' => ∃ (x6_1 : List Int) (x32_1 : Int), v32 = .int .i64 x32_1 ∧ qb (qq.l0 kq x6_1 y383 (y383.length : Int) x32_1 = some (r1, r2)) ∧ qb (kq ≤ k) ∧ qb (Kd.R (Kd.int .u8) 5 w' w.heap.size (fun _ => True) v6 x6_1) ∧ qb (Kd.R (Kd.int .i64) 3 w' w.heap.size (fun _ => True) (.slice Ao15 y383.length co15) y383) ∧ qb (Below w.heap.size w w'))
      case atStart => exact ⟨(([] : List Int)), (0), yf, H', ⟨Nat.le_refl _⟩, ⟨by first | exact Kd.jx _ _ _ _ _ | exact Kd.N_nil _ _ _ _ _ | exact Kd.V_nil _ _ _ _ _ | exact Kd.Q_nil _ _ _ _ _ | exact Kd.S_nil _ _ _ _ _⟩, ⟨by (with_reducible repeat (first | apply Kd.qw | apply Kd.qv | apply Kd.qz)); exact Kd.xn HO385.out (fun _ hk => trivial)⟩, ⟨by repeat (first | (with_reducible first | exact HB.out | apply qc | apply qa | apply qd) | exact HB.out)⟩⟩
      case round =>
       clear H'
       (try clear c1); (try clear q1); (try clear p2); (try clear c3); (try clear p3); (try clear q3); (try clear hx3); (try clear qi3); (try clear c4); (try clear c4b0); (try clear c4b1); try clear c5
       (try clear c5b0); (try clear c5b1); (try clear c6); (try clear c6b0); (try clear c6b1); (try clear p6); (try clear c7); (try clear c9); (try clear c10); (try clear c11); (try clear q11); try clear hx374_0
       (try clear hx375_0); (try clear p374); (try clear p375); (try clear q11); (try clear q374); try clear q375
       obtain ⟨x6_1, x32_1, rfl, HA, HK1, HO_6, HO_30, HB⟩ := hrel
       cases gk with
       | zero => exact absurd HA.out (by simp [qq.l0])
       | succ k1 =>
        have H := HA.out
        clear HA
        simp only [qq.l0] at H
        by_cases c16 : x32_1 < (y383.length : Int)
        ·rw [if_pos c16] at H
         have c16b0 : decide (x32_1 < (y383.length : Int)) = true := decide_eq_true c16
         clear c16
         by_cases c17 : 0 ≤ x32_1
         ·rw [if_pos c17] at H
          have c17b0 : decide (0 ≤ x32_1) = true := decide_eq_true c17
          clear c17
          by_cases c18 : x32_1 < (y383.length : Int)
          ·rw [if_pos c18] at H
           have c18b0 : decide (x32_1 < (y383.length : Int)) = true := decide_eq_true c18
           clear c18
           have H' := qb.mk H
           clear H
           have p386 : 0 ≤ (x32_1 : Int) := of_decide_eq_true yc
           have q386 : x32_1 < (y383.length : Int) := of_decide_eq_true yc
           obtain ⟨ad386, e386, hx386_0⟩ := Kd.at_int (Kd.zq HO_30.out).2.2 x32_1 p386 q386
           cases e386
           replace p386 := eq_true p386
           replace q386 := eq_true q386
           go_wp2
           go_loopg [8, 9] k1 (fun kq v8 v9 w' => ∃ (x8_2 : Int) (x9_2 : List Int), v8 = .int .i64 x8_2 ∧ qb (qq.l1 kq x6_1 x8_2 x9_2 y383 (y383.length : Int) x32_1 = some (r1, r2)) ∧ qb (kq ≤ k1) ∧ qb (Kd.R (Kd.int .u8) 5 w' w.heap.size (fun k_ => some k_ ≠ (v9 : Value).ownBlock) u6 x6_1) ∧ qb (Kd.R (Kd.int .u8) 5 w' w.heap.size (fun k_ => some k_ ≠ (u6 : Value).ownBlock) v9 x9_2) ∧ qb (Kd.R (Kd.int .i64) 3 w' w.heap.size (fun _ => True) (.slice (some ad386) y383.length co15) y383) ∧ qb (Below w.heap.size w w'))
           case atStart => exact ⟨(rd y383 x32_1), (([] : List Int)), yf, H', ⟨Nat.le_refl _⟩, ⟨by (with_reducible repeat (first | apply Kd.qw | apply Kd.qv | apply Kd.qz)); exact Kd.xn HO_6.out (fun _ hk => ca2)⟩, ⟨by first | exact Kd.jx _ _ _ _ _ | exact Kd.N_nil _ _ _ _ _ | exact Kd.V_nil _ _ _ _ _ | exact Kd.Q_nil _ _ _ _ _ | exact Kd.S_nil _ _ _ _ _⟩, ⟨by (with_reducible repeat (first | apply Kd.qw | apply Kd.qv | apply Kd.qz)); exact HO_30.out⟩, ⟨by repeat (first | (with_reducible first | exact HB.out | apply qc | apply qa | apply qd) | exact HB.out)⟩⟩
           case round =>
            clear H'
            (try clear c1); (try clear q1); (try clear p2); (try clear c3); (try clear p3); (try clear q3); (try clear hx3); (try clear qi3); (try clear c4); (try clear c4b0); try clear c4b1
            (try clear c5); (try clear c5b0); (try clear c5b1); (try clear c6); (try clear c6b0); (try clear c6b1); (try clear p6); (try clear c7); (try clear c9); (try clear c10); try clear c11
            (try clear q11); (try clear c16); (try clear c16b0); (try clear c17); (try clear c17b0); (try clear c18); (try clear c18b0); (try clear hx374_0); (try clear hx375_0); try clear hx386_0
            (try clear p2); (try clear p3); (try clear p374); (try clear p375); (try clear p386); (try clear p6); (try clear q1); (try clear q11); (try clear q3); (try clear q374); try clear q375
            try clear q386
            obtain ⟨x8_2, x9_2, rfl, HA, HK2, HO_6, HO_9, HO_30, HB⟩ := hrel
            cases gk with
            | zero => exact absurd HA.out (by simp [qq.l1])
            | succ k2 =>
             have H := HA.out
             clear HA
             simp only [qq.l1] at H
             obtain ⟨y387, hy387⟩ : ∃ y_ : List Int, y_ = (([(Int.tmod x8_2 128) % 256] : List Int)) := ⟨_, rfl⟩
             replace H : (if y387.length + x9_2.length < 140737488355328 then ((some (y387 ++ x9_2 : List Int)).bind fun y390 => (if (wrap64 (Int.tdiv x8_2 128)) = 0 then (qq.l2 k2 x6_1 y390 0 y383 (y383.length : Int) x32_1) else (qq.l1 k2 x6_1 (wrap64 (Int.tdiv x8_2 128)) y390 y383 (y383.length : Int) x32_1))) else (none)) = some (r1, r2) := by first | (rw [hy387]; with_reducible exact H) | (have H2_ := (Option.bind_some _ _).symm.trans H; rw [hy387]; with_reducible exact H2_) | (have H2_ := (Option.bind_some _ _).symm.trans H; with_reducible exact H2_) | with_reducible exact H | (rw [hy387]; exact H) | exact H
             have Ny387 := qb.mk hy387
             clear hy387
             by_cases c19 : y387.length + x9_2.length < 140737488355328
             ·rw [if_pos c19] at H
              have LMc19 := qb.mk c19
              clear c19
              obtain ⟨y390, hy390⟩ : ∃ y_ : List Int, y_ = (y387 ++ x9_2) := ⟨_, rfl⟩
              replace H : (if (wrap64 (Int.tdiv x8_2 128)) = 0 then (qq.l2 k2 x6_1 y390 0 y383 (y383.length : Int) x32_1) else (qq.l1 k2 x6_1 (wrap64 (Int.tdiv x8_2 128)) y390 y383 (y383.length : Int) x32_1)) = some (r1, r2) := by first | (rw [hy390]; with_reducible exact H) | (have H2_ := (Option.bind_some _ _).symm.trans H; rw [hy390]; with_reducible exact H2_) | (have H2_ := (Option.bind_some _ _).symm.trans H; with_reducible exact H2_) | with_reducible exact H | (rw [hy390]; exact H) | exact H
              have Ny390 := qb.mk hy390
              clear hy390
              by_cases c20 : (wrap64 (Int.tdiv x8_2 128)) = 0
              ·rw [if_pos c20] at H
               have c20b0 : ((wrap64 (Int.tdiv x8_2 128)) == 0) = true := beq_iff_eq.mpr c20
               have c20b1 : ((wrap64 (Int.tdiv x8_2 128)) != 0) = false := bne_eq_false_iff_eq.mpr c20
               clear c20
               have H' := qb.mk H
               clear H
               go_wp2_with (first | ((with_reducible refine zm (N := 39) rfl ?_); refine Kd.jz (Kd.int .u8) _ 5 ?hg (N := 39) ?hd (xs := ([(Int.tmod x8_2 128) % 256] : List Int)) (inner := [.int .u8 ((Int.tmod x8_2 128) % 256)]) (ok := fun _ => True) (okp := fun _ => True) ?hr ?hp (fun _ hk => hk) trivial (Below.refl _ _) (Nat.le_refl _) uf ?_; (case hd => rfl); (case hg => rfl); (case hr => first | (go_simp; done) | (go_simp; rfl)); (case hp => exact (Reps.one (show Kd.M (Kd.int .u8) _ _ _ ((Int.tmod x8_2 128) % 256) [.int .u8 ((Int.tmod x8_2 128) % 256)] from rfl) (Reps.none _ _))); intro v388 w21 ho22 hb hg_ hnew_; clear hg_ hnew_; (first | rw [← Ny387.out] at ho22 | (simp only [Int.reduceToNat] at ho22; rw [← Ny387.out] at ho22)); have n0_ := qb.mk (Kd.k6 uz (Kd.je ho22) hb); have n1_ := qb.mk (Kd.k6 caa (Kd.je ho22) hb); have n2_ := qb.mk (Kd.z8 cak hb); have n3_ := qb.mk (Kd.kn (Kd.jm (Kd.jm ho22 (Kd.R_lt uz)) (Kd.R_lt caa)) (qp cu)); have n4_ := qb.mk (qm cu hb); clear HO_6; clear HO_9; clear HO_30; clear HB; have HO_6 := n0_; have HO_9 := n1_; have HO_30 := n2_; have HO389 := n3_; have HB := n4_; clear n0_ n1_ n2_ n3_ n4_; clear hb ho22; obtain ⟨Ao24, co24, eo24⟩ := Kd.xo HO_9.out; subst eo24) | ((with_reducible refine xp (b := .append) (xs := #[.tmp 39, .tmp 40]) rfl ?_); at_builtin; refine Kd.vk (Kd.int .u8) (w0 := w) w.heap.size rfl (.tmp 39) (.tmp 40) 59 5 (.int .u8 0) 1 rfl Tryz.underlying59 info5 rfl (by decide) yg v388 y387 x9_2 _ _ _ (fun k_ => some k_ ≠ (u6 : Value).ownBlock ∧ some k_ ≠ (.slice Ao24 x9_2.length co24 : Value).ownBlock) (fun _ => False) rfl rfl ?aO ?aR (fun _ _ h => h) (fun _ h => h.elim) ?aF ?aB ?aS ?aL ?_; (case aR => repeat (first | exact (Kd.zq HO_9.out).2.2 | (with_reducible refine Kd.xr ?_ _) | (with_reducible refine Kd.xt ?_ _) | (with_reducible refine Kd.kp ?_))); (case aB => exact cu); (case aF => exact (fun k_ hk => ⟨Kd.fresh' (Kd.R_lt uz) k_ hk, Kd.fresh' (Kd.R_lt caa) k_ hk⟩)); (case aO => exact (by (with_reducible repeat (first | apply Kd.qw | apply Kd.qv | apply Kd.qz)); exact Kd.xn HO389.out (fun _ hk => ⟨hk.1.2, hk.2⟩))); (case aS => exact (qp cu)); (case aL => have := LMc19.out; omega); intro v391 w23 ho hb hg hat; rw [← Ny390.out] at ho; have n0_ := qb.mk (Kd.jy (ok := (fun k_ => some k_ ≠ (.slice Ao24 x9_2.length co24 : Value).ownBlock)) uz hg hat); have n1_ := qb.mk (Kd.jy (ok := (fun k_ => some k_ ≠ (u6 : Value).ownBlock)) caa hg hat); have n2_ := qb.mk (Kd.R_over' cak (Kd.R_typed (by (with_reducible repeat (first | apply Kd.qw | apply Kd.qv | apply Kd.qz)); exact HO389.out)) (by decide) hg); have n3_ := qb.mk (hb); have n4_ := qb.mk (ho); clear HO_6; clear HO_9; clear HO_30; clear HB; clear HO389; have HO_6 := n0_; have HO_9 := n1_; have HO_30 := n2_; have HB := n3_; have HO392 := n4_; clear n0_ n1_ n2_ n3_ n4_; clear ho hb hg hat))
               go_loopg [10] k2 (fun kq v10 w' => ∃ (x9_3 : List Int) (x10_3 : Int), v10 = .int .i64 x10_3 ∧ qb (qq.l2 kq x6_1 x9_3 x10_3 y383 (y383.length : Int) x32_1 = some (r1, r2)) ∧ qb (kq ≤ k2) ∧ qb (Kd.R (Kd.int .u8) 5 w' w.heap.size (fun k_ => some k_ ≠ (v391 : Value).ownBlock) u6 x6_1) ∧ qb (Kd.R (Kd.int .u8) 5 w' w.heap.size (fun k_ => some k_ ≠ (u6 : Value).ownBlock) v391 x9_3) ∧ qb (Kd.R (Kd.int .i64) 3 w' w.heap.size (fun _ => True) (.slice (some ad386) y383.length co15) y383) ∧ qb (Below w.heap.size w w'))
               case atStart => exact ⟨(y390), (0), yf, H', ⟨Nat.le_refl _⟩, ⟨by (with_reducible repeat (first | apply Kd.qw | apply Kd.qv | apply Kd.qz)); exact Kd.xn HO_6.out (fun _ hk => hk.2)⟩, ⟨by (with_reducible repeat (first | apply Kd.qw | apply Kd.qv | apply Kd.qz)); exact Kd.xn HO392.out (fun _ hk => hk.1)⟩, ⟨by (with_reducible repeat (first | apply Kd.qw | apply Kd.qv | apply Kd.qz)); exact HO_30.out⟩, ⟨by repeat (first | (with_reducible first | exact HB.out | apply qc | apply qa | apply qd) | exact HB.out)⟩⟩
               case round =>
                clear H'
                (try clear c1); (try clear q1); (try clear c2); (try clear p2); (try clear c3); (try clear p3); (try clear q3); (try clear hx3); (try clear qi3); (try clear c4); try clear c4b0
                (try clear c4b1); (try clear c5); (try clear c5b0); (try clear c5b1); (try clear c6); (try clear c6b0); (try clear c6b1); (try clear p6); (try clear c7); (try clear c9); try clear c10
                (try clear c11); (try clear q11); (try clear c16); (try clear c16b0); (try clear c17); (try clear c17b0); (try clear c18); (try clear c18b0); (try clear c19); try clear c20
                (try clear c20b0); (try clear c20b1); (try clear hx374_0); (try clear hx375_0); (try clear hx386_0); (try clear p2); (try clear p3); (try clear p374); (try clear p375); try clear p386
                (try clear p6); (try clear q1); (try clear q11); (try clear q3); (try clear q374); (try clear q375); try clear q386
                obtain ⟨x9_3, x10_3, rfl, HA, HK3, HO_6, HO_9, HO_30, HB⟩ := hrel
                cases gk with
                | zero => exact absurd HA.out (by simp [qq.l2])
                | succ k3 =>
                 have H := HA.out
                 clear HA
                 simp only [qq.l2] at H
                 by_cases c25 : (wrap64 (x10_3 + 1)) < (x9_3.length : Int)
                 ·rw [if_pos c25] at H
                  have c25b0 : decide ((wrap64 (x10_3 + 1)) < (x9_3.length : Int)) = true := decide_eq_true c25
                  clear c25
                  by_cases c26 : 0 ≤ x10_3
                  ·rw [if_pos c26] at H
                   have c26b0 : decide (0 ≤ x10_3) = true := decide_eq_true c26
                   clear c26
                   by_cases c27 : x10_3 < (x9_3.length : Int)
                   ·rw [if_pos c27] at H
                    have c27b0 : decide (x10_3 < (x9_3.length : Int)) = true := decide_eq_true c27
                    clear c27
                    obtain ⟨y394, hy394⟩ : ∃ y_ : List Int, y_ = (x9_3.set (x10_3 : Int).toNat (((rd x9_3 x10_3) + 128) % 256)) := ⟨_, rfl⟩
                    replace H : (qq.l2 k3 x6_1 y394 (wrap64 (x10_3 + 1)) y383 (y383.length : Int) x32_1) = some (r1, r2) := by first | (rw [hy394]; with_reducible exact H) | (have H2_ := (Option.bind_some _ _).symm.trans H; rw [hy394]; with_reducible exact H2_) | (have H2_ := (Option.bind_some _ _).symm.trans H; with_reducible exact H2_) | with_reducible exact H | (rw [hy394]; exact H) | exact H
                    have Ny394 := qb.mk hy394
                    clear hy394
                    have H' := qb.mk H
                    clear H
                    obtain ⟨Ao29, co29, eo29⟩ := Kd.xo HO_9.out
                    subst eo29
                    have p393 : 0 ≤ (x10_3 : Int) := of_decide_eq_true yc
                    have q393 : x10_3 < (x9_3.length : Int) := of_decide_eq_true yc
                    obtain ⟨ad393, e393, hx393_0⟩ := Kd.at_int (Kd.zq HO_9.out).2.2 x10_3 p393 q393
                    cases e393
                    replace p393 := eq_true p393
                    replace q393 := eq_true q393
                    have p28 : 0 ≤ (x10_3 : Int) := of_decide_eq_true yc
                    have q28 : (x10_3 : Int) < ((x9_3.length : Int) : Int) := of_decide_eq_true yc
                    obtain ⟨go28, co28, eo28, gb28, gl28, cl28, HG28⟩ := Kd.R_form HO_9.out yg
                    (first | cases eo28 | (injection eo28 with ea_ en_ ec_; (first | subst ea_ | (injection ea_ with ea_; subst ea_)); subst ec_; clear en_))
                    have GB28 := qb.mk gb28
                    have GG28 := qb.mk HG28
                    clear gb28 gl28 HG28
                    (first | simp only [add_plain] at hx393_0 | skip)
                    obtain ⟨hx28_0, hf28_0⟩ := Kd.R_celln 0 HO_9.out (x10_3 : Int) p28 q28
                    replace p28 := eq_true p28
                    replace q28 := eq_true q28
                    have HP30 := Kd.R_putg HO_9.out (x10_3 : Int) (((rd x9_3 x10_3) + 128) % 256)
                    go_wp2_with (first | ((with_reducible refine gate_store (t := 5) (p := 58) rfl ?_); refine store_event (t := 5) (p := 58) (v := ?vo_w31) (w1 := (wr.setCell ⟨go28, (x10_3 : Int).toNat, none⟩ (.int .u8 (((rd x9_3 x10_3) + 128) % 256)))) ?hg ?ho ?hn ?hr ?_; (case ho => rfl); (case hg => rfl); (case hn => rfl); (case hr => first | (go_simp; done) | (go_simp; rfl)); intro w31 hw; have hg : wr.grownBy w31 (some go28) := (by rw [hw]; exact HP30.2); have hp_ : Kd.R (Kd.int .u8) 5 w31 w.heap.size (fun k_ => some k_ ≠ (u6 : Value).ownBlock) (.slice (some ⟨go28, 0, none⟩) x9_3.length co29) y394 := (by rw [hw, Ny394.out]; exact HP30.1); clear HP30; have n0_ := qb.mk (Kd.jy (v := (.slice (some ⟨go28, 0, none⟩) x9_3.length co29)) (v1 := (.slice (some ⟨go28, 0, none⟩) x9_3.length co29)) (ok := (fun _ => True)) (by (with_reducible repeat (first | apply Kd.qw | apply Kd.qv | apply Kd.qz)); exact Kd.xn HO_6.out (fun _ hk => ⟨trivial, hk⟩)) hg (.inl rfl)); have n1_ := qb.mk (hp_); have n2_ := qb.mk (Kd.R_over' (v := (.slice (some ⟨go28, 0, none⟩) x9_3.length co29)) cak (Kd.R_typed HO_9.out) (by decide) hg); have n3_ := qb.mk ((by rw [hw]; exact qe (HB.out) GB28.out : Below w.heap.size w w31)); clear HO_6; clear HO_9; clear HO_30; clear HB; have HO_6 := n0_; have HO_9 := n1_; have HO_30 := n2_; have HB := n3_; clear n0_ n1_ n2_ n3_; clear hg hw hp_))
                    go_roundg k3
                    case measure => have := HK1.out; have := HK2.out; have := HK3.out; omega
                    case rel => exact ⟨(y394), (wrap64 (x10_3 + 1)), yf, H', ⟨by have := HK1.out; have := HK2.out; have := HK3.out; omega⟩, ⟨by (with_reducible repeat (first | apply Kd.qw | apply Kd.qv | apply Kd.qz)); exact Kd.xn HO_6.out (fun _ hk => hk.2)⟩, ⟨by (with_reducible repeat (first | apply Kd.qw | apply Kd.qv | apply Kd.qz)); exact HO_9.out⟩, ⟨by (with_reducible repeat (first | apply Kd.qw | apply Kd.qv | apply Kd.qz)); exact HO_30.out⟩, ⟨by repeat (first | (with_reducible first | exact HB.out | apply qc | apply qa | apply qd) | exact HB.out)⟩⟩
                   ·rw [if_neg c27] at H
                    exact absurd H uf
                  ·rw [if_neg c26] at H
                   exact absurd H uf
                 ·rw [if_neg c25] at H
                  have c25b0 : decide ((wrap64 (x10_3 + 1)) < (x9_3.length : Int)) = false := decide_eq_false c25
                  clear c25
                  by_cases c32 : x6_1.length + x9_3.length < 140737488355328
                  ·rw [if_pos c32] at H
                   have LMc32 := qb.mk c32
                   clear c32
                   obtain ⟨y395, hy395⟩ : ∃ y_ : List Int, y_ = (x6_1 ++ x9_3) := ⟨_, rfl⟩
                   replace H : (qq.l0 k3 y395 y383 (y383.length : Int) (wrap64 (x32_1 + 1))) = some (r1, r2) := by first | (rw [hy395]; with_reducible exact H) | (have H2_ := (Option.bind_some _ _).symm.trans H; rw [hy395]; with_reducible exact H2_) | (have H2_ := (Option.bind_some _ _).symm.trans H; with_reducible exact H2_) | with_reducible exact H | (rw [hy395]; exact H) | exact H
                   have Ny395 := qb.mk hy395
                   clear hy395
                   have H' := qb.mk H
                   clear H
                   obtain ⟨Ao33, co33, eo33⟩ := Kd.xo HO_9.out
                   subst eo33
                   go_wp2_with (first | ((with_reducible refine xp (b := .append) (xs := #[.tmp 59, .tmp 60]) rfl ?_); at_builtin; refine Kd.vk (Kd.int .u8) (w0 := w) w.heap.size rfl (.tmp 59) (.tmp 60) 59 5 (.int .u8 0) 1 rfl Tryz.underlying59 info5 rfl (by decide) yg u6 x6_1 x9_3 _ _ _ (fun k_ => some k_ ≠ (.slice Ao33 x9_3.length co33 : Value).ownBlock) (fun _ => False) rfl rfl ?aO ?aR (fun _ _ h => h) (fun _ h => h.elim) ?aF ?aB ?aS ?aL ?_; (case aR => repeat (first | exact (Kd.zq HO_9.out).2.2 | (with_reducible refine Kd.xr ?_ _) | (with_reducible refine Kd.xt ?_ _) | (with_reducible refine Kd.kp ?_))); (case aB => exact cu); (case aF => exact (fun k_ hk => Kd.fresh' (Kd.R_lt caa) k_ hk)); (case aO => exact uz); (case aS => exact (qp cu)); (case aL => have := LMc32.out; omega); intro v396 w34 ho hb hg hat; rw [← Ny395.out] at ho; have n0_ := qb.mk (Kd.jy (ok := (fun _ => True)) (by (with_reducible repeat (first | apply Kd.qw | apply Kd.qv | apply Kd.qz)); exact Kd.xn HO_9.out (fun _ hk => ⟨trivial, hk⟩)) hg hat); have n1_ := qb.mk (Kd.R_over' cak (Kd.R_typed uz) (by decide) hg); have n2_ := qb.mk (hb); have n3_ := qb.mk (ho); clear HO_9; clear HO_30; clear HB; clear HO_6; have HO_9 := n0_; have HO_30 := n1_; have HB := n2_; have HO397 := n3_; clear n0_ n1_ n2_ n3_; clear ho hb hg hat))
                   go_roundg k3
                   case measure => have := HK1.out; have := HK2.out; have := HK3.out; omega
                   case rel => exact ⟨(y395), (wrap64 (x32_1 + 1)), yf, H', ⟨by have := HK1.out; have := HK2.out; have := HK3.out; omega⟩, ⟨by (with_reducible repeat (first | apply Kd.qw | apply Kd.qv | apply Kd.qz)); exact Kd.xn HO397.out (fun _ hk => trivial)⟩, ⟨by (with_reducible repeat (first | apply Kd.qw | apply Kd.qv | apply Kd.qz)); exact HO_30.out⟩, ⟨by repeat (first | (with_reducible first | exact HB.out | apply qc | apply qa | apply qd) | exact HB.out)⟩⟩
                  ·rw [if_neg c32] at H
                   exact absurd H uf
              ·rw [if_neg c20] at H
               have c20b0 : ((wrap64 (Int.tdiv x8_2 128)) == 0) = false := beq_eq_false_iff_ne.mpr c20
               have c20b1 : ((wrap64 (Int.tdiv x8_2 128)) != 0) = true := bne_iff_ne.mpr c20
               have H' := qb.mk H
               clear H
               go_wp2_with (first | ((with_reducible refine zm (N := 39) rfl ?_); refine Kd.jz (Kd.int .u8) _ 5 ?hg (N := 39) ?hd (xs := ([(Int.tmod x8_2 128) % 256] : List Int)) (inner := [.int .u8 ((Int.tmod x8_2 128) % 256)]) (ok := fun _ => True) (okp := fun _ => True) ?hr ?hp (fun _ hk => hk) trivial (Below.refl _ _) (Nat.le_refl _) uf ?_; (case hd => rfl); (case hg => rfl); (case hr => first | (go_simp; done) | (go_simp; rfl)); (case hp => exact (Reps.one (show Kd.M (Kd.int .u8) _ _ _ ((Int.tmod x8_2 128) % 256) [.int .u8 ((Int.tmod x8_2 128) % 256)] from rfl) (Reps.none _ _))); intro v388 w35 ho36 hb hg_ hnew_; clear hg_ hnew_; (first | rw [← Ny387.out] at ho36 | (simp only [Int.reduceToNat] at ho36; rw [← Ny387.out] at ho36)); have n0_ := qb.mk (Kd.k6 uz (Kd.je ho36) hb); have n1_ := qb.mk (Kd.k6 caa (Kd.je ho36) hb); have n2_ := qb.mk (Kd.z8 cak hb); have n3_ := qb.mk (Kd.kn (Kd.jm (Kd.jm ho36 (Kd.R_lt uz)) (Kd.R_lt caa)) (qp cu)); have n4_ := qb.mk (qm cu hb); clear HO_6; clear HO_9; clear HO_30; clear HB; have HO_6 := n0_; have HO_9 := n1_; have HO_30 := n2_; have HO389 := n3_; have HB := n4_; clear n0_ n1_ n2_ n3_ n4_; clear hb ho36; obtain ⟨Ao38, co38, eo38⟩ := Kd.xo HO_9.out; subst eo38) | ((with_reducible refine xp (b := .append) (xs := #[.tmp 39, .tmp 40]) rfl ?_); at_builtin; refine Kd.vk (Kd.int .u8) (w0 := w) w.heap.size rfl (.tmp 39) (.tmp 40) 59 5 (.int .u8 0) 1 rfl Tryz.underlying59 info5 rfl (by decide) yg v388 y387 x9_2 _ _ _ (fun k_ => some k_ ≠ (u6 : Value).ownBlock ∧ some k_ ≠ (.slice Ao38 x9_2.length co38 : Value).ownBlock) (fun _ => False) rfl rfl ?aO ?aR (fun _ _ h => h) (fun _ h => h.elim) ?aF ?aB ?aS ?aL ?_; (case aR => repeat (first | exact (Kd.zq HO_9.out).2.2 | (with_reducible refine Kd.xr ?_ _) | (with_reducible refine Kd.xt ?_ _) | (with_reducible refine Kd.kp ?_))); (case aB => exact cu); (case aF => exact (fun k_ hk => ⟨Kd.fresh' (Kd.R_lt uz) k_ hk, Kd.fresh' (Kd.R_lt caa) k_ hk⟩)); (case aO => exact (by (with_reducible repeat (first | apply Kd.qw | apply Kd.qv | apply Kd.qz)); exact Kd.xn HO389.out (fun _ hk => ⟨hk.1.2, hk.2⟩))); (case aS => exact (qp cu)); (case aL => have := LMc19.out; omega); intro v391 w37 ho hb hg hat; rw [← Ny390.out] at ho; have n0_ := qb.mk (Kd.jy (ok := (fun k_ => some k_ ≠ (.slice Ao38 x9_2.length co38 : Value).ownBlock)) uz hg hat); have n1_ := qb.mk (Kd.jy (ok := (fun k_ => some k_ ≠ (u6 : Value).ownBlock)) caa hg hat); have n2_ := qb.mk (Kd.R_over' cak (Kd.R_typed (by (with_reducible repeat (first | apply Kd.qw | apply Kd.qv | apply Kd.qz)); exact HO389.out)) (by decide) hg); have n3_ := qb.mk (hb); have n4_ := qb.mk (ho); clear HO_6; clear HO_9; clear HO_30; clear HB; clear HO389; have HO_6 := n0_; have HO_9 := n1_; have HO_30 := n2_; have HB := n3_; have HO392 := n4_; clear n0_ n1_ n2_ n3_ n4_; clear ho hb hg hat))
               go_roundg k2
               case measure => have := HK1.out; have := HK2.out; omega
               case rel => exact ⟨(wrap64 (Int.tdiv x8_2 128)), (y390), yf, H', ⟨by have := HK1.out; have := HK2.out; omega⟩, ⟨by (with_reducible repeat (first | apply Kd.qw | apply Kd.qv | apply Kd.qz)); exact Kd.xn HO_6.out (fun _ hk => hk.2)⟩, ⟨by (with_reducible repeat (first | apply Kd.qw | apply Kd.qv | apply Kd.qz)); exact Kd.xn HO392.out (fun _ hk => hk.1)⟩, ⟨by (with_reducible repeat (first | apply Kd.qw | apply Kd.qv | apply Kd.qz)); exact HO_30.out⟩, ⟨by repeat (first | (with_reducible first | exact HB.out | apply qc | apply qa | apply qd) | exact HB.out)⟩⟩
             ·rw [if_neg c19] at H
              exact absurd H uf
          ·rw [if_neg c18] at H
           exact absurd H uf
         ·rw [if_neg c17] at H
          exact absurd H uf
        ·rw [if_neg c16] at H
         have c16b0 : decide (x32_1 < (y383.length : Int)) = false := decide_eq_false c16
         clear c16
         simp only [Option.some.injEq, Prod.mk.injEq] at H
         obtain ⟨rfl, rfl⟩ := H
         have hcv39 := jd (P := Tryz.prog) Tryz.underlying59 Tryz.underlying5 Tryz.underlying9 (Kd.jl HO_6.out)
         go_wp2
         go_ret2
         exact ⟨by first | rfl | (simp [qt, qu] <;> rfl) | (simp [*, qt, qu] <;> rfl), by repeat (first | (with_reducible first | exact HB.out | apply qc | apply qa | apply qd) | exact HB.out)⟩
     ·rw [if_neg c7] at H
      exact absurd H uf
    ·rw [if_neg c6] at H
     exact absurd H uf
   ·rw [if_neg c5] at H
    exact absurd H uf
  ·rw [if_neg c4] at H
   exact absurd H uf
 ·replace c3 := Bool.eq_false_iff.mpr c3
  subst c3
  have H1 : (some ((⟨#[]⟩ : ByteArray), 11)) = some (r1, r2) := by rw [if_neg (show ¬ (false = true) by decide)] at H; exact H
  clear H
  have H := H1
  clear H1
  simp only [Option.some.injEq, Prod.mk.injEq] at H
  obtain ⟨rfl, rfl⟩ := H
  go_enter Tryz.func96, Tryz.ntmps96
  go_wp2_with (first | ((with_reducible refine zl (f := 108) rfl ?_); refine xk (some 13) rfl rfl Tryz.func108 yh rfl #[.string a0] rfl cz ?_; (with_reducible refine (ql.calls k a0 t370 false _ A2.out).mono ?_); rintro e w40 ⟨v372, rfl, ho0, hb⟩; refine ⟨_, rfl, ?_⟩; have n0_ := qb.mk (Kd.kn ho0 (qp cu)); have n1_ := qb.mk (qm cu hb); clear HB; have HO373 := n0_; have HB := n1_; clear n0_ n1_; (try clear hb); (try clear hb2); (try clear hk); (try clear hi); (try clear ho0)))
  go_ret2
  exact ⟨by first | rfl | (simp [qt, qu] <;> rfl) | (simp [*, qt, qu] <;> rfl), by repeat (first | (with_reducible first | exact HB.out | apply qc | apply qa | apply qd) | exact HB.out)⟩
end Go.Proofs.YthdoohfdminfgaaGreatDoor.C
end
section
namespace Go.Proofs.YthdoohfdminfgaaGreatDoor.C
open Go.RowKit Go.Proofs.YthdoohfdminfgaaGreatDoorW.PrintWords Go.Proofs.YthdoohfdminfgaaGreatDoorW.PrintLast Go.Proofs.YthdoohfdminfgaaGreatDoorW.PrintMore
attribute [local go_sem] kc xy kr ks xh xg xz xx
set_option linter.unusedVariables false
set_option linter.unusedSimpArgs false
def km.f (k : Nat) (a0 : ByteArray) : Option (ByteArray) := (qq.f k a0).bind fun bt398 => ((zj.f k 6 (([bt398.1] : List ByteArray))).bind fun t403 => (some t403))
theorem km.mono : ∀ a0 k, LeO (km.f k a0) (km.f (k + 1) a0) := by
 intro a0 k
 unfold km.f
 repeat' first
   | (with_reducible exact qq.mono _ _)
   | (with_reducible exact zj.mono _ _ _)
   | (with_reducible exact LeO.refl _)
   | (with_reducible exact LeO.none _)
   | (with_reducible refine LeO.ite ?_ ?_)
   | (with_reducible refine LeO.bind ?_ (fun _ => ?_))
set_option maxHeartbeats 8000000 in
set_option maxRecDepth 100000 in
theorem km.calls (k : Nat) (a0 : ByteArray) (r : ByteArray) (w : World) (h : km.f k a0 = some r) :
  Calls Tryz.prog 65 #[.string a0] w fun e w' => e = .returned (.string r) ∧ Below w.heap.size w w' := by
 have HB := qb.mk (Below.refl w.heap.size w)
 have H : ((qq.f k a0).bind fun bt398 => ((zj.f k 6 (([bt398.1] : List ByteArray))).bind fun t403 => (some t403))) = some r := h
 clear h
 replace H := Option.bind_eq_some_iff.mp H
 obtain ⟨⟨t398, t399⟩, A20, H⟩ := H
 replace H : ((zj.f k 6 (([t398] : List ByteArray))).bind fun t403 => (some t403)) = some r := H
 have A2 := qb.mk A20
 clear A20
 obtain ⟨y400, hy400⟩ : ∃ y_ : List ByteArray, y_ = (([t398] : List ByteArray)) := ⟨_, rfl⟩
 replace H : ((zj.f k 6 y400).bind fun t403 => (some t403)) = some r := by first | (rw [hy400]; with_reducible exact H) | (have H2_ := (Option.bind_some _ _).symm.trans H; rw [hy400]; with_reducible exact H2_) | (have H2_ := (Option.bind_some _ _).symm.trans H; with_reducible exact H2_) | with_reducible exact H | (rw [hy400]; exact H) | exact H
 have Ny400 := qb.mk hy400
 clear hy400
 replace H := Option.bind_eq_some_iff.mp H
 obtain ⟨t403, A30, H⟩ := H
 replace H : (some t403) = some r := H
 have A3 := qb.mk A30
 clear A30
 obtain rfl := Option.some.inj H
 go_enter Tryz.func65, Tryz.ntmps65
 go_wp2_with (first | ((with_reducible refine zl (f := 96) rfl ?_); refine xk (some 7) rfl rfl Tryz.func96 yh rfl #[.string a0] rfl cz ?_; (with_reducible refine (qq.calls k a0 t398 t399 _ A2.out).mono ?_); rintro e w4 ⟨rfl, hb⟩; refine ⟨_, rfl, ?_⟩; have n0_ := qb.mk (qm cu hb); clear HB; have HB := n0_; clear n0_; (try clear hb); (try clear hb2); (try clear hk); (try clear hi)) | ((with_reducible refine zm (N := 11) rfl ?_); refine Kd.jz Kd.string _ 9 ?hg (N := 11) ?hd (xs := ([t398] : List ByteArray)) (inner := [.string t398]) (ok := fun _ => True) (okp := fun _ => True) ?hr ?hp (fun _ hk => hk) trivial (Below.refl _ _) (Nat.le_refl _) uf ?_; (case hd => rfl); (case hg => rfl); (case hr => first | (go_simp; done) | (go_simp; rfl)); (case hp => exact (Reps.one (show Kd.M Kd.string _ _ _ t398 [.string t398] from rfl) (Reps.none _ _))); intro v401 w5 ho6 hb hg_ hnew_; clear hg_ hnew_; (first | rw [← Ny400.out] at ho6 | (simp only [Int.reduceToNat] at ho6; rw [← Ny400.out] at ho6)); have n0_ := qb.mk (Kd.kn ho6 (qp cu)); have n1_ := qb.mk (qm cu hb); clear HB; have HO402 := n0_; have HB := n1_; clear n0_ n1_; clear hb ho6; obtain ⟨Ao7, co7, eo7⟩ := Kd.xo HO402.out; subst eo7) | ((with_reducible refine zl (f := 31) rfl ?_); refine xk (some 12) rfl rfl Tryz.func31 yh rfl #[.int .i64 6, .slice Ao7 y400.length co7] rfl cz ?_; (with_reducible refine (zj.calls k 6 _ _ y400 t403 _ ?side1 ?side2 A3.out).mono ?_); (case side1 => repeat (first | exact (Kd.zq HO402.out).2.2 | (with_reducible refine Kd.xr ?_ _) | (with_reducible refine Kd.xt ?_ _) | (with_reducible refine Kd.kp ?_))); (case side2 => exact (Kd.zq HO402.out).2.1); rintro e w8 ⟨rfl, hb⟩; refine ⟨_, rfl, ?_⟩; have n0_ := qb.mk (Kd.z8 (by (with_reducible repeat (first | apply Kd.qw | apply Kd.qv | apply Kd.qz)); exact HO402.out) hb); have n1_ := qb.mk (qm cu hb); clear HO402; clear HB; have HO402 := n0_; have HB := n1_; clear n0_ n1_; (try clear hb); (try clear hb2); (try clear hk); (try clear hi)))
 go_ret
 exact ⟨by first | rfl | (simp [qt, qu] <;> rfl) | (simp [*, qt, qu] <;> rfl), by repeat (first | (with_reducible first | exact HB.out | apply qc | apply qa | apply qd) | exact HB.out)⟩
end Go.Proofs.YthdoohfdminfgaaGreatDoor.C
end
