/- Words, walks and plain laws that the claim rests on, gathered. -/
import Derived.Sort.Walk0
import Derived.Lib.Join
import Derived.Lib.ConvBytes
import Derived.Shelf.Strings.Builder1
import Derived.Shelf.Strings.Builder2
import Derived.Shelf.Strings.OnBuilder
import Derived.Shelf.Small.Bits
import Derived.Shelf.Small.Strs
import Derived.Shelf.Strconv.Itoa0
import Derived.Shelf.Strings.Search1
import Derived.Shelf.Strings.Search2
import Derived.Shelf.Strings.Search3
import Derived.Shelf.Strings.Cut
import Derived.Shelf.Strings.Count
import Derived.Shelf.LaysM
import Derived.Shelf.Strings.Shaped
import Derived.Shelf.Sort.Plain
import Derived.Shelf.Strings.Prefix
import Derived.Shelf.Strings.Split
import Derived.Shelf.Strings.SplitShaped
import Derived.Shelf.Unicode.DecodeSlow
import Derived.Shelf.Slices.In.SortNone
import Derived.Shelf.Slices.In.SortNone2
import Derived.Test.YthdoohfdminfgaaGreatDoorProg
import Derived.Below
import Derived.Deep.Draws
import Derived.Deep.AppendLies
import Derived.Maps.AppendAt
import Derived.OwnWalk
import Derived.Laws.BytesArg
import Derived.Laws.MakeOwn
import Derived.Laws.OwnMore
import Derived.Deep.OwnRows
import Derived.Tactics
import Derived.Laws.Slices
import Derived.WalkKit
import Derived.KernelRfl
import Derived.RowKit3
import Derived.Deep.LoopGhost
import Derived.Deep.QuietTactic
import Derived.BigQuiet
import Derived.WideLaws
import Derived.Deep.DeepCutAuto
import Derived.Deep.CutBlock
import Derived.Deep.RegionHeld3
import Derived.Laws.Rows
import Derived.Lib.AppendStr
import Derived.ArgAppend
import Derived.Laws.IdiomCopy
import Derived.RowKit
import Derived.WalkSpells
import Derived.OrdersHeld
import Derived.Laws.BitsLemmas
import Derived.WalkLawsBesides
import Derived.Lib.SplitLaws
import Derived.Deep.Slices
import Derived.Deep.Strs
import Derived.ChangeSame
import Derived.WideShapes
import Derived.Laws.StructEq
import Derived.SizedLaws
import Derived.ChangeSlices
import Derived.Test.YthdoohfdminfgaaGreatDoorNC0
import Derived.Test.YthdoohfdminfgaaGreatDoorNC1
import Derived.Test.YthdoohfdminfgaaGreatDoorNC2
import Derived.Test.YthdoohfdminfgaaGreatDoorNC3
import Derived.Test.YthdoohfdminfgaaGreatDoorNC4
import Derived.Test.YthdoohfdminfgaaGreatDoorNC5
import Derived.Test.YthdoohfdminfgaaGreatDoorNC6
import Derived.Test.YthdoohfdminfgaaGreatDoorNC7
import Derived.Test.YthdoohfdminfgaaGreatDoorNC8
import Derived.Test.YthdoohfdminfgaaGreatDoorNC9
import Derived.Test.YthdoohfdminfgaaGreatDoorNC10
import Derived.Test.YthdoohfdminfgaaGreatDoorNC11
import Derived.Test.YthdoohfdminfgaaGreatDoorNC12
import Derived.Test.YthdoohfdminfgaaGreatDoorNC13
import Derived.Test.YthdoohfdminfgaaGreatDoorNC14
import Derived.Test.YthdoohfdminfgaaGreatDoorNC15
import Derived.Test.YthdoohfdminfgaaGreatDoorNC16
import Derived.Test.YthdoohfdminfgaaGreatDoorNC17
import Derived.Test.YthdoohfdminfgaaGreatDoorNC18
import Derived.Test.YthdoohfdminfgaaGreatDoorNCc
namespace Go.Proofs.YthdoohfdminfgaaGreatDoorW.PrintLast
end Go.Proofs.YthdoohfdminfgaaGreatDoorW.PrintLast
namespace Go.Proofs.YthdoohfdminfgaaGreatDoorW.PrintMore
end Go.Proofs.YthdoohfdminfgaaGreatDoorW.PrintMore
namespace Go.Proofs.YthdoohfdminfgaaGreatDoorW.PrintWords
end Go.Proofs.YthdoohfdminfgaaGreatDoorW.PrintWords
section
namespace Go.Proofs.YthdoohfdminfgaaGreatDoor.C
open Go.RowKit Go.Proofs.YthdoohfdminfgaaGreatDoorW.PrintWords Go.Proofs.YthdoohfdminfgaaGreatDoorW.PrintLast Go.Proofs.YthdoohfdminfgaaGreatDoorW.PrintMore Go.Proofs.YthdoohfdminfgaaGreatDoor.Pl
attribute [local go_sem] kc xy kr ks xh xg xz xx
set_option linter.unusedVariables false
set_option linter.unusedSimpArgs false
def chk.T6 : Bool × List (List Nat × List Nat) := (true, [([], []), ([0], [0]), ([], []), ([], []), ([3], [3]), ([4], [4]), ([2, 5], [2, 5]), ([1, 6], [1, 6]), ([7], [7]), ([8, 6, 0, 1, 2, 3, 4, 5, 6, 7, 8], [8])])
def chk.B6 : List Nat := [0, 1, 0, 0, 8, 24, 60, 127, 255, 511]
theorem chk.tab6 : rtab .any (opsOf Tryz.f4 6) = chk.T6 := by kernel_rfl
theorem chk.bits6 : waitsOk chk.T6.2 chk.B6 = true := by kernel_rfl
def chk.T22 : Bool × List (List Nat × List Nat) := (true, [([], []), ([0], [0]), ([], []), ([2, 1], [2]), ([1, 3], [1, 3]), ([4, 3], [4]), ([5], [5]), ([5], [5]), ([6, 7, 5], [5, 6, 7]), ([5, 8], [5, 8]), ([9, 5], [9]), ([10], [10]), ([10], [10]), ([11, 12, 10], [10, 11, 12]), ([10, 13], [10, 13])])
def chk.B22 : List Nat := [0, 1, 0, 7, 15, 31, 63, 63, 255, 511, 1023, 2047, 2047, 8191, 16383]
theorem chk.tab22 : rtab .any (opsOf Tryz.f4 22) = chk.T22 := by kernel_rfl
theorem chk.bits22 : waitsOk chk.T22.2 chk.B22 = true := by kernel_rfl
set_option maxHeartbeats 16000000 in
set_option maxRecDepth 100000 in
theorem check_calls (Aa A0 : Option Addr) (ca c0 : Nat) (a : List (List S40)) (l : List Int) (t : ByteArray) (kd : Int) (v : ByteArray) (u : World) (hG : LibHeld u) (hca : Kd.C (Kd.slice 40 k40) u Aa a.length a) (hpa : a.length ≤ ca) (hBa : BigN a)
  (ht : t.size ≤ 9223372036854775807) (hv : v.size ≤ 9223372036854775807) (hl : Kd.C (Kd.int .i64) u A0 l.length l) (hc : l.length ≤ c0) (hL : l.length ≤ 140737488351232) :
  Calls Tryz.prog 4 #[.agg #[.slice Aa a.length ca], .slice A0 l.length c0, .agg #[.string t, .int .i64 kd, .string v]] u fun e w' => e = .returned (.bool true) ∧ Below u.heap.size u w' := by
 have hu24 := Tryz.underlying31
 have hu26 := Tryz.underlying40
 have HG := qb.mk hG
 have HCa0 := qb.mk hca
 have HPa := qb.mk hpa
 have HL := qb.mk hl
 have HC := qb.mk hc
 have HLL := qb.mk hL
 obtain ⟨ra, ⟨ka, hka⟩, hfa⟩ := short_fit a hBa
 have KA := qb.mk hka
 have FA := qb.mk hfa
 clear hG hca hpa hl hc hL hka hfa hBa
 go_enter Tryz.func4, Tryz.ntmps4
 go_upto_region 1 with (fail)
 obtain ⟨W1, hWW⟩ : ∃ W_, W_ = (u.alloc (Obj.cells #[Value.slice Aa a.length ca] 31)).alloc (Obj.cells #[Value.string t, Value.int .i64 kd, Value.string v] 40) := ⟨_, rfl⟩
 rw [← hWW]
 have HU := qb.mk (show Below u.heap.size u W1 by rw [hWW]; exact qc (qc (Below.refl _ _) _) _)
 have BKa := qb.mk (show W1.heap[u.heap.size]? = some (.cells #[.slice Aa a.length ca] 31 (0, 0)) by rw [hWW]; exact qf (heap_alloc_new u _) _)
 have BKt := qb.mk (show W1.heap[u.heap.size + 1]? = some (.cells #[.string t, .int .i64 kd, .string v] 40 (0, 0)) by rw [hWW]; simpa using heap_alloc_new (u.alloc (Obj.cells #[Value.slice Aa a.length ca] 31)) (Obj.cells #[Value.string t, Value.int .i64 kd, Value.string v] 40))
 clear hWW
 generalize u.heap.size + 1 = gt at BKt ⊢
 obtain ⟨ga, hga⟩ : ∃ x, x = u.heap.size := ⟨_, rfl⟩
 rw [← hga] at BKa ⊢
 clear hga
 have za : W1.cell? ⟨ga, 0, none⟩ = some (.slice Aa a.length ca) := (qo BKa.out 0).trans rfl
 cases ra with
 | false =>
  go_wp2_with (first | ((with_reducible refine at_c 17 ?_); go_at_call 17; (with_reducible refine (zc.calls ka Aa ca a _ _ (Kd.xv HCa0.out HU.out) HPa.out KA.out).mono ?_); rintro e W2 ⟨rfl, hq⟩; have h1 := q8 BKa.out hq; have h2 := q8 BKt.out hq; have h3 := qm HU.out hq; replace BKa := qb.mk h1; replace BKt := qb.mk h2; replace HU := qb.mk h3; have zt0 : W2.cell? ⟨gt, 0, none⟩ = some (.string t) := (qo BKt.out 0).trans rfl; have zt2 : W2.cell? ⟨gt, 2, none⟩ = some (.string v) := (qo BKt.out 2).trans rfl; clear hq h1 h2 h3) | ((with_reducible refine at_c 8 ?_); go_at_call 8; refine (awakeT _ (LibHeld.below HG.out HU.out)).mono ?_; rintro e W4 ⟨rfl, hq⟩; have h3 := qm HU.out hq; replace HU := qb.mk h3; clear hq h3))
  go_ret
  exact ⟨rfl, HU.out⟩
 | true =>
 by_cases ht2 : t.size > 200
 ·have ht3 : decide ((t.size : Int) > 200) = true := decide_eq_true yg
  go_wp2_with (first | ((with_reducible refine at_c 17 ?_); go_at_call 17; (with_reducible refine (zc.calls ka Aa ca a _ _ (Kd.xv HCa0.out HU.out) HPa.out KA.out).mono ?_); rintro e W2 ⟨rfl, hq⟩; have h1 := q8 BKa.out hq; have h2 := q8 BKt.out hq; have h3 := qm HU.out hq; replace BKa := qb.mk h1; replace BKt := qb.mk h2; replace HU := qb.mk h3; have zt0 : W2.cell? ⟨gt, 0, none⟩ = some (.string t) := (qo BKt.out 0).trans rfl; have zt2 : W2.cell? ⟨gt, 2, none⟩ = some (.string v) := (qo BKt.out 2).trans rfl; clear hq h1 h2 h3) | ((with_reducible refine at_c 8 ?_); go_at_call 8; refine (awakeT _ (LibHeld.below HG.out HU.out)).mono ?_; rintro e W4 ⟨rfl, hq⟩; have h3 := qm HU.out hq; replace HU := qb.mk h3; clear hq h3))
  go_ret
  exact ⟨rfl, HU.out⟩
 by_cases hv2 : v.size > 200
 ·have ht3 : decide ((t.size : Int) > 200) = false := decide_eq_false yg
  have hv3 : decide ((v.size : Int) > 200) = true := decide_eq_true yg
  go_wp2_with (first | ((with_reducible refine at_c 17 ?_); go_at_call 17; (with_reducible refine (zc.calls ka Aa ca a _ _ (Kd.xv HCa0.out HU.out) HPa.out KA.out).mono ?_); rintro e W2 ⟨rfl, hq⟩; have h1 := q8 BKa.out hq; have h2 := q8 BKt.out hq; have h3 := qm HU.out hq; replace BKa := qb.mk h1; replace BKt := qb.mk h2; replace HU := qb.mk h3; have zt0 : W2.cell? ⟨gt, 0, none⟩ = some (.string t) := (qo BKt.out 0).trans rfl; have zt2 : W2.cell? ⟨gt, 2, none⟩ = some (.string v) := (qo BKt.out 2).trans rfl; clear hq h1 h2 h3) | ((with_reducible refine at_c 8 ?_); go_at_call 8; refine (awakeT _ (LibHeld.below HG.out HU.out)).mono ?_; rintro e W4 ⟨rfl, hq⟩; have h3 := qm HU.out hq; replace HU := qb.mk h3; clear hq h3))
  go_ret
  exact ⟨rfl, HU.out⟩
 have FIa := qb.mk (FA.out rfl)
 have TV := qb.mk (show t.size ≤ 1000 ∧ v.size ≤ 1000 by omega)
 have ht3 : decide ((t.size : Int) > 200) = false := decide_eq_false yg
 have hv3 : decide ((v.size : Int) > 200) = false := decide_eq_false yg
 clear FA ht hv
 go_upto_region 3 with (first | ((with_reducible refine at_c 17 ?_); go_at_call 17; (with_reducible refine (zc.calls ka Aa ca a _ _ (Kd.xv HCa0.out HU.out) HPa.out KA.out).mono ?_); rintro e W2 ⟨rfl, hq⟩; have h1 := q8 BKa.out hq; have h2 := q8 BKt.out hq; have h3 := qm HU.out hq; replace BKa := qb.mk h1; replace BKt := qb.mk h2; replace HU := qb.mk h3; have zt0 : W2.cell? ⟨gt, 0, none⟩ = some (.string t) := (qo BKt.out 0).trans rfl; have zt2 : W2.cell? ⟨gt, 2, none⟩ = some (.string v) := (qo BKt.out 2).trans rfl; clear hq h1 h2 h3))
 clear KA za ht2 hv2 ht3 hv3
 rename World => w
 have HCa := qb.mk (Kd.xv HCa0.out HU.out)
 have GGa := qb.mk (show ga < w.heap.size from xu BKa.out)
 have GGt := qb.mk (show gt < w.heap.size from xu BKt.out)
 go_upto_region 4 with ((with_reducible refine at_c 9 ?_); go_at_call 9; refine (newT _ A0 c0 l (Kd.xv HL.out HU.out) HC.out HLL.out).mono ?_; rintro e W5 ⟨g, rfl, di, hb⟩; have DI := qb.mk di; have HB := qb.mk hb; replace BKa := qb.mk (q8 BKa.out hb); replace BKt := qb.mk (q8 BKt.out hb); clear di hb)
 go_upto_region 5 with ((with_reducible refine at_c 11 ?_); go_at_call 11; refine (name_weak g w _ DI.out HB.out).mono ?_; rintro e W6 ⟨vn, n, rfl, hl3, hrm, hs, di, hb, hk⟩; obtain ⟨An, cn, rfl⟩ := Kd.j5 hs; have HS := qb.mk (Kd.S_lower hs HB.out.size); have RM := qb.mk hrm; have GE := qb.mk di.ge; replace BKa := qb.mk (KeepBut.blk hk BKa.out (by have := GGa.out; have := GE.out; omega) uf); replace BKt := qb.mk (KeepBut.blk hk BKt.out (by have := GGt.out; have := GE.out; omega) uf); replace DI := qb.mk di; replace HB := qb.mk hb; have N3 := qb.mk hl3; clear hs hrm di hb hk hl3)
 obtain ⟨W7, hWW⟩ : ∃ W_, W_ = W6.alloc (Obj.cells #[Value.slice An n.length cn] 31) := ⟨_, rfl⟩
 rw [← hWW]
 have hb7 : Below W6.heap.size W6 W7 := by rw [hWW]; exact qc (Below.refl _ _) _
 have ST := qb.mk (show Sit w g ga gt W6.heap.size (.slice Aa a.length ca) t kd v An cn W7 n from ⟨DI.out.below hb7, qm HB.out hb7, q8 BKa.out hb7, q8 BKt.out hb7, by rw [hWW]; exact heap_alloc_new _ _, Kd.k5 HS.out hb7, GGa.out, GGt.out, HB.out.size, Nat.ne_of_gt DI.out.lt⟩)
 clear hWW hb7 BKa BKt DI HB HS GE
 generalize W6.heap.size = gn at ST ⊢
 have WN := qb.mk (show Wee n from fun r hr => (RelMade_wee (RM.out r hr)).2.2)
 have LN := qb.mk (show ∀ r ∈ n, 0 < r.length ∧ r.length ≤ 2 from fun r hr => ⟨(RelMade_wee (RM.out r hr)).1, (RelMade_wee (RM.out r hr)).2.1⟩)
 clear RM
 have zn : W7.cell? ⟨gn, 0, none⟩ = some (.slice An n.length cn) := (qo ST.out.bn 0).trans rfl
 go_upto_if 40 with (fail)
 clear zn
 go_cut [9, 10] (fun v9 v10 wc => ∃ m : List (List S40), qb (Sit w g ga gt gn (.slice Aa a.length ca) t kd v An cn wc m) ∧ qb (Wee m))
 case first =>
  rcases Nat.eq_zero_or_pos n.length with h0 | h0
  ·have h0b : decide ((n.length : Int) > 0) = false := decide_eq_false yg
   go_wp2
   go_meet
   case rel => exact ⟨n, ST, WN⟩
  ·have h0b : decide ((n.length : Int) > 0) = true := decide_eq_true yg
   obtain ⟨q, rfl⟩ := ST.out.head h0
   go_upto_region 6 with (fail)
   obtain ⟨oc, hoc, hqg⟩ := ST.out.outer
   have BQ := qb.mk hoc
   have QG := qb.mk hqg
   have H0 := qb.mk h0
   clear hoc hqg h0 h0b
   replace ST := qb.mk (ST.out.below (j9 (Below.refl _ _)))
   replace BQ := qb.mk (q8 BQ.out (j9 (Below.refl _ _)))
   refine start_ (n := 10) (S := fun w' => w'.cell? ⟨gn, 0, none⟩ = some (.slice (some ⟨q, 0, none⟩) n.length cn) ∧ w'.heap[q]? = some (.cells oc 42 (0, 0))) (ds := []) #[false, false, false, false, false, false, false, false, false, false] yh rfl rfl ⟨(qo ST.out.bn 0).trans rfl, BQ.out⟩ (fun hHeld => ?_); refine with_tabW chk.tab6 chk.bits6 (fun HT_ HW_ => ?_)
   generalize World.drew _ = W8 at ST BQ hHeld ⊢
   refine xq (i := 0) (N := (some 41)) (v := ?_) (a' := ?_) #[true, false, false, false, false, false, false, false, false, false] rfl rfl (xj HT_.out yh) (fun _ _ _ h => h) (Or.inl ⟨by rfl, ?_⟩) ?_ ?_
   rotate_left
   ·intro w'
    go_simp
    with_reducible rfl
   rotate_left
   ·simp only [Act.put, List.setIfInBounds_toArray, List.set_cons_zero, List.set_cons_succ, zo, zr]
    rfl
   refine xq (i := 2) (N := (some 43)) (v := ?_) (a' := ?_) #[true, false, true, false, false, false, false, false, false, false] rfl rfl (xj HT_.out yh) (fun _ _ _ h => h) (Or.inl ⟨by rfl, ?_⟩) ?_ ?_
   rotate_left
   ·intro w'
    go_simp
    with_reducible rfl
   rotate_left
   ·simp only [Act.put, List.setIfInBounds_toArray, List.set_cons_zero, List.set_cons_succ, zo, zr]
    rfl
   refine xq (i := 3) (N := (some 44)) (v := ?_) (a' := ?_) #[true, false, true, true, false, false, false, false, false, false] rfl rfl (xj HT_.out yh) (fun _ _ _ h => h) (Or.inl ⟨by rfl, ?_⟩) ?_ ?_
   rotate_left
   ·intro w'
    go_simp
    with_reducible rfl
   rotate_left
   ·simp only [Act.put, List.setIfInBounds_toArray, List.set_cons_zero, List.set_cons_succ, zo, zr]
    rfl
   refine take_ (i := 1) (N := (some 42)) (v := ?_) (a' := ?_) #[true, true, true, true, false, false, false, false, false, false] rfl rfl (jb HT_.out HW_.out yh) (fun _ _ _ h => h) (Or.inl ⟨by rfl, ?_⟩) hHeld ?_ ?_
   rotate_left
   ·rintro w' ⟨s0, s1⟩
    go_simp
    with_reducible rfl
   rotate_left
   ·simp only [Act.put, List.setIfInBounds_toArray, List.set_cons_zero, List.set_cons_succ, zo, zr]
    rfl
   refine take_ (i := 4) (N := (some 45)) (v := ?_) (a' := ?_) #[true, true, true, true, true, false, false, false, false, false] rfl rfl (jb HT_.out HW_.out yh) (fun _ _ _ h => h) (Or.inl ⟨by rfl, ?_⟩) hHeld ?_ ?_
   rotate_left
   ·rintro w' ⟨s0, s1⟩
    go_simp
    with_reducible rfl
   rotate_left
   ·simp only [Act.put, List.setIfInBounds_toArray, List.set_cons_zero, List.set_cons_succ, zo, zr]
    rfl
   refine xq (i := 5) (N := (some 46)) (v := ?_) (a' := ?_) #[true, true, true, true, true, true, false, false, false, false] rfl rfl (xj HT_.out yh) (fun _ _ _ h => h) (Or.inl ⟨by rfl, ?_⟩) ?_ ?_
   rotate_left
   ·intro w'
    go_simp
    with_reducible rfl
   rotate_left
   ·simp only [Act.put, List.setIfInBounds_toArray, List.set_cons_zero, List.set_cons_succ, zo, zr]
    rfl
   refine one_ (i := 6) (N := (some 47)) #[true, true, true, true, true, true, true, false, false, false] rfl rfl (j8 HT_.out yh) (by decide) (fun K hK => ?_)
   refine goes_ Tryz.func18 yh rfl #[.pointer (some ⟨g, 0, none⟩), .int .i64 (n.length : Int)] (by rfl) rfl rfl cz ?_
   refine (next_weak g (n.length : Int) (by have := H0.out; omega) (by have := N3.out; omega) w _ ST.out.di ST.out.hb).mono ?_
   rintro e_ W9 ⟨j0, rfl, hj0, hj1, di, hb, hk⟩
   refine ⟨_, rfl, ?_⟩
   replace ST := qb.mk (ST.out.call di hb hk)
   replace BQ := qb.mk (KeepBut.blk hk BQ.out QG.out uf)
   clear di hb hk
   obtain ⟨j, rfl⟩ := Int.eq_ofNat_of_zero_le hj0
   have hjl : j < n.length := by omega
   obtain ⟨r, hjr⟩ : ∃ r, n[j]? = some r := ⟨_, List.getElem?_eq_getElem hjl⟩
   have JR := qb.mk hjr
   have RN := qb.mk (List.mem_of_getElem? hjr)
   obtain ⟨gr, cr, _, hcell, _⟩ := ST.out.lend' j r hjr (LN.out r RN.out).1
   have OC := qb.mk (show oc[j]? = some (.slice (some ⟨gr, 0, none⟩) r.length cr) from (qo BQ.out j).symm.trans hcell)
   have q0 : (0 ≤ (j : Int)) = True := eq_true yg
   have q1 : ((j : Int) < (n.length : Int)) = True := eq_true yg
   have q2 : (j < n.length) = True := eq_true hjl
   clear hj0 hj1 hcell hjr hjl
   refine hK.out _ _ ⟨(qo ST.out.bn 0).trans rfl, BQ.out⟩ (fun hHeld => ?_)
   clear hK K
   refine jn (a' := ?_) ?_ ?_
   rotate_left
   ·show Act.put _ (some 47) _ = _
    simp only [Act.put, List.setIfInBounds_toArray, List.set_cons_zero, List.set_cons_succ, zo, zr]
    rfl
   refine xq (i := 7) (N := (some 48)) (v := ?_) (a' := ?_) #[true, true, true, true, true, true, true, true, false, false] rfl rfl (xj HT_.out yh) (fun _ _ _ h => h) (Or.inl ⟨by rfl, ?_⟩) ?_ ?_
   rotate_left
   ·intro w'
    go_simp
    with_reducible rfl
   rotate_left
   ·simp only [Act.put, List.setIfInBounds_toArray, List.set_cons_zero, List.set_cons_succ, zo, zr]
    rfl
   refine take_ (i := 8) (N := (some 49)) (v := ?_) (a' := ?_) #[true, true, true, true, true, true, true, true, true, false] rfl rfl (jb HT_.out HW_.out yh) (fun _ _ _ h => h) (Or.inl ⟨by rfl, ?_⟩) hHeld ?_ ?_
   rotate_left
   ·rintro w' ⟨s0, s1⟩
    have s2 : w'.cell? ⟨q, j, none⟩ = some (.slice (some ⟨gr, 0, none⟩) r.length cr) := (qo s1 j).trans OC.out
    clear s1
    go_simp
    with_reducible rfl
   rotate_left
   ·simp only [Act.put, List.setIfInBounds_toArray, List.set_cons_zero, List.set_cons_succ, zo, zr]
    rfl
   refine xq (i := 9) (N := (some 9)) (v := ?_) (a' := ?_) #[true, true, true, true, true, true, true, true, true, true] rfl rfl (xj HT_.out yh) (fun _ _ _ h => h) (Or.inl ⟨by rfl, ?_⟩) ?_ ?_
   rotate_left
   ·intro w'
    go_simp
    with_reducible rfl
   rotate_left
   ·simp only [Act.put, List.setIfInBounds_toArray, List.set_cons_zero, List.set_cons_succ, zo, zr]
    rfl
   refine done_ (done_of HT_.out yh) ?_
   clear hHeld q0 q1 q2
   go_upto_region 8 with ((with_reducible refine at_c 18 ?_); go_at_call 18; refine (next_weak g (r.length : Int) (by have := (LN.out r RN.out).1; omega) (by have := (LN.out r RN.out).2; omega) w _ ST.out.di ST.out.hb).mono ?_; rintro e W10 ⟨k0, rfl, hk_0, hk_1, di, hb, hk⟩; replace ST := qb.mk (ST.out.call di hb hk); replace BQ := qb.mk (KeepBut.blk hk BQ.out QG.out uf); clear di hb hk; obtain ⟨k, rfl⟩ := Int.eq_ofNat_of_zero_le hk_0)
   have KL := qb.mk (show k < r.length by omega)
   clear hk_0 hk_1
   go_upto_region 9 with ((with_reducible refine at_c 18 ?_); go_at_call 18; refine (next_weak g 5 yg yg w _ ST.out.di ST.out.hb).mono ?_; rintro e W11 ⟨x, rfl, hx_0, hx_1, di, hb, hk⟩; replace ST := qb.mk (ST.out.call di hb hk); replace BQ := qb.mk (KeepBut.blk hk BQ.out QG.out uf); clear di hb hk)
   obtain ⟨p, hp⟩ : ∃ p, r[k]? = some p := ⟨_, List.getElem?_eq_getElem KL.out⟩
   have RP := qb.mk hp
   have PR := qb.mk (List.mem_of_getElem? hp)
   have q0 : (0 ≤ (k : Int)) = True := eq_true yg
   have q1 : ((k : Int) < (r.length : Int)) = True := eq_true (by have := KL.out; omega)
   have q2 : (k < r.length) = True := eq_true KL.out
   clear hp
   obtain rfl | rfl | rfl | rfl | rfl : x = 0 ∨ x = 1 ∨ x = 2 ∨ x = 3 ∨ x = 4 := by omega
   ·obtain ⟨gr', cr', oki, hcell, hR, hne, hge, hback⟩ := ST.out.lend' j r JR.out (LN.out r RN.out).1
    have hsame : some (Value.slice (some ⟨gr', 0, none⟩) r.length cr') = some (.slice (some ⟨gr, 0, none⟩) r.length cr) := hcell.symm.trans ((qo BQ.out j).trans OC.out)
    injection hsame with hsame
    injection hsame with hs1 _ hs2
    injection hs1 with hs1
    injection hs1 with hs1 _ _
    subst hs1
    subst hs2
    have HR := qb.mk hR
    have HNE := qb.mk hne
    have HGE := qb.mk hge
    have HBACK := qb.mk (fun W1 r' a b c => hback W1 r' a b c)
    clear hcell hR hne hge hback BQ OC HNE HGE
    obtain ⟨zc0, zc1, zc2, zf⟩ := elem26 HR.out k p RP.out
    have zf0 := zf (k * 3)
    have zf1 := zf (k * 3 + 1)
    have zf2 := zf (k * 3 + 2)
    clear zf
    have zt0 : W11.cell? ⟨gt, 0, none⟩ = some (.string t) := (qo ST.out.bt 0).trans rfl
    have zt1 : W11.cell? ⟨gt, 1, none⟩ = some (.int .i64 kd) := (qo ST.out.bt 1).trans rfl
    have zt2 : W11.cell? ⟨gt, 2, none⟩ = some (.string v) := (qo ST.out.bt 2).trans rfl
    clear hx_0 hx_1
    have HST := qb.mk (seg26 HR.out ST.out.hb k p RP.out 0 [.string t, .int .i64 kd, .string v] ⟨t, kd, v⟩ uf rfl)
    go_wp2
    go_meet
    case rel => exact ⟨_, ⟨HBACK.out _ _ HST.out.1 HST.out.2.1 HST.out.2.2⟩, ⟨WN.out.put RN.out (q := ⟨t, kd, v⟩) TV.out⟩⟩
   ·obtain ⟨gr', cr', oki, hcell, hR, hne, hge, hback⟩ := ST.out.lend' j r JR.out (LN.out r RN.out).1
    have hsame : some (Value.slice (some ⟨gr', 0, none⟩) r.length cr') = some (.slice (some ⟨gr, 0, none⟩) r.length cr) := hcell.symm.trans ((qo BQ.out j).trans OC.out)
    injection hsame with hsame
    injection hsame with hs1 _ hs2
    injection hs1 with hs1
    injection hs1 with hs1 _ _
    subst hs1
    subst hs2
    have HR := qb.mk hR
    have HNE := qb.mk hne
    have HGE := qb.mk hge
    have HBACK := qb.mk (fun W1 r' a b c => hback W1 r' a b c)
    clear hcell hR hne hge hback BQ OC HNE HGE
    obtain ⟨zc0, zc1, zc2, zf⟩ := elem26 HR.out k p RP.out
    have zf0 := zf (k * 3)
    have zf1 := zf (k * 3 + 1)
    have zf2 := zf (k * 3 + 2)
    clear zf
    have zt0 : W11.cell? ⟨gt, 0, none⟩ = some (.string t) := (qo ST.out.bt 0).trans rfl
    have zt1 : W11.cell? ⟨gt, 1, none⟩ = some (.int .i64 kd) := (qo ST.out.bt 1).trans rfl
    have zt2 : W11.cell? ⟨gt, 2, none⟩ = some (.string v) := (qo ST.out.bt 2).trans rfl
    clear hx_0 hx_1
    have HST := qb.mk (seg26 HR.out ST.out.hb k p RP.out 2 [.string v] ⟨p.f0, p.f1, v⟩ uf rfl)
    go_wp2
    go_meet
    case rel => exact ⟨_, ⟨HBACK.out _ _ HST.out.1 HST.out.2.1 HST.out.2.2⟩, ⟨WN.out.put RN.out (q := ⟨p.f0, p.f1, v⟩) ⟨(WN.out r RN.out p PR.out).1, TV.out.2⟩⟩⟩
   ·clear hx_0 hx_1
    go_wp2_with ((with_reducible refine at_c 18 ?_); go_at_call 18; refine (next_weak g 4 yg yg w _ (ST.out.di.below (qc (Below.refl _ _) _)) (qm ST.out.hb (qc (Below.refl _ _) _))).mono ?_; rintro e W12 ⟨y0, rfl, hy0, hy1, di, hb, hk⟩; obtain ⟨y, rfl⟩ := Int.eq_ofNat_of_zero_le hy0; have hba := qc (Below.refl W11.heap.size W11) (Obj.cells #[.int .i64 12, .int .i64 22, .int .i64 19, .int .i64 4] 3); have hlb := KeepBut.blk hk (heap_alloc_new W11 (Obj.cells #[.int .i64 12, .int .i64 22, .int .i64 19, .int .i64 4] 3)) (Nat.ne_of_gt ST.out.di.lt) uf; obtain ⟨K, hK⟩ := lit4 hlb y yg; have BQ2 := qb.mk (KeepBut.blk hk (q8 BQ.out hba) QG.out uf); clear BQ; have BQ := BQ2; clear BQ2; replace ST := qb.mk ((ST.out.below hba).call di hb hk); have y1 : (0 ≤ (y : Int)) = True := eq_true yg; have y2 : ((y : Int) < 4) = True := eq_true yg; have y3 : (y < 4) = True := eq_true yg; clear di hb hk hba hlb hy0 hy1; obtain ⟨gr', cr', oki, hcell, hR, hne, hge, hback⟩ := ST.out.lend' j r JR.out (LN.out r RN.out).1; have hsame : some (Value.slice (some ⟨gr', 0, none⟩) r.length cr') = some (.slice (some ⟨gr, 0, none⟩) r.length cr) := hcell.symm.trans ((qo BQ.out j).trans OC.out); injection hsame with hsame; injection hsame with hs1 _ hs2; injection hs1 with hs1; injection hs1 with hs1 _ _; subst hs1; subst hs2; have HR := qb.mk hR; have HNE := qb.mk hne; have HGE := qb.mk hge; have HBACK := qb.mk (fun W1 r' a b c => hback W1 r' a b c); clear hcell hR hne hge hback BQ OC HNE HGE; obtain ⟨zc0, zc1, zc2, zf⟩ := elem26 HR.out k p RP.out; have zf0 := zf (k * 3); have zf1 := zf (k * 3 + 1); have zf2 := zf (k * 3 + 2); clear zf; have HST := qb.mk (seg26 HR.out ST.out.hb k p RP.out 1 [.int .i64 K] ⟨p.f0, K, p.f2⟩ uf rfl))
    go_meet
    case rel => exact ⟨_, ⟨HBACK.out _ _ HST.out.1 HST.out.2.1 HST.out.2.2⟩, ⟨WN.out.put RN.out (q := ⟨p.f0, K, p.f2⟩) (WN.out r RN.out p PR.out)⟩⟩
   ·clear hx_0 hx_1
    go_wp2_with (first | ((with_reducible refine at_c 18 ?_); go_at_call 18; refine (next_weak g 9 yg yg w _ ST.out.di ST.out.hb).mono ?_; rintro e W12 ⟨y, rfl, hy_0, hy_1, di, hb, hk⟩; replace ST := qb.mk (ST.out.call di hb hk); replace BQ := qb.mk (KeepBut.blk hk BQ.out QG.out uf); clear di hb hk) | ((with_reducible refine at_c 19 ?_); go_at_call 19; refine (policyT y hy_0 hy_1 _).mono ?_; rintro e W13 ⟨s, rfl, hz, hb⟩; have SZ := qb.mk hz; replace ST := qb.mk (ST.out.below hb); replace BQ := qb.mk (q8 BQ.out hb); clear hz hb hy_0 hy_1; obtain ⟨gr', cr', oki, hcell, hR, hne, hge, hback⟩ := ST.out.lend' j r JR.out (LN.out r RN.out).1; have hsame : some (Value.slice (some ⟨gr', 0, none⟩) r.length cr') = some (.slice (some ⟨gr, 0, none⟩) r.length cr) := hcell.symm.trans ((qo BQ.out j).trans OC.out); injection hsame with hsame; injection hsame with hs1 _ hs2; injection hs1 with hs1; injection hs1 with hs1 _ _; subst hs1; subst hs2; have HR := qb.mk hR; have HNE := qb.mk hne; have HGE := qb.mk hge; have HBACK := qb.mk (fun W1 r' a b c => hback W1 r' a b c); clear hcell hR hne hge hback BQ OC HNE HGE; obtain ⟨zc0, zc1, zc2, zf⟩ := elem26 HR.out k p RP.out; have zf0 := zf (k * 3); have zf1 := zf (k * 3 + 1); have zf2 := zf (k * 3 + 2); clear zf; have HST := qb.mk (seg26 HR.out ST.out.hb k p RP.out 0 [.string s] ⟨s, p.f1, p.f2⟩ uf rfl)))
    go_meet
    case rel => exact ⟨_, ⟨HBACK.out _ _ HST.out.1 HST.out.2.1 HST.out.2.2⟩, ⟨WN.out.put RN.out (q := ⟨s, p.f1, p.f2⟩) ⟨by have := SZ.out; show s.size ≤ 1000; omega, (WN.out r RN.out p PR.out).2⟩⟩⟩
   ·clear hx_0 hx_1
    go_wp2
    go_meet
    case rel => exact ⟨n, ST, WN⟩
 case rest =>
 clear ST WN LN N3
 obtain ⟨m, ST, WN⟩ := hcut
 have FIm := qb.mk WN.out.fit
 have za : wc.cell? ⟨ga, 0, none⟩ = some (.slice Aa a.length ca) := (qo ST.out.ba 0).trans rfl
 have zn : wc.cell? ⟨gn, 0, none⟩ = some (.slice An m.length cn) := (qo ST.out.bn 0).trans rfl
 go_wp2
 obtain ⟨W8, hWW⟩ : ∃ W_, W_ = wc.alloc (Obj.cells #[Value.slice Aa a.length ca, Value.slice An m.length cn] 31) := ⟨_, rfl⟩
 rw [← hWW]
 have BL := qb.mk (show W8.heap[wc.heap.size]? = some (.cells #[.slice Aa a.length ca, .slice An m.length cn] 31 (0, 0)) by rw [hWW]; exact heap_alloc_new _ _)
 have hb8 : Below wc.heap.size wc W8 := by rw [hWW]; exact qc (Below.refl _ _) _
 have HB := qb.mk (qm HU.out (qm ST.out.hb hb8))
 have HG8 := qb.mk (LibHeld.below HG.out HB.out)
 have HC8a := qb.mk (Kd.xv HCa.out (qm ST.out.hb hb8))
 have HC8m := qb.mk (Kd.xv (Kd.jp ST.out.sn).2.2 hb8)
 have HPm := qb.mk (Kd.jp ST.out.sn).2.1
 clear hWW hb8 za zn ST WN HU HG
 generalize wc.heap.size = gL at BL ⊢
 obtain ⟨⟨sa, xa⟩, hea⟩ : ∃ r_, encAll a = r_ := ⟨_, rfl⟩
 obtain ⟨⟨sm, xm⟩, hem⟩ : ∃ r_, encAll m = r_ := ⟨_, rfl⟩
 obtain ⟨na, hna⟩ : ∃ r_, nameErr a = r_ := ⟨_, rfl⟩
 obtain ⟨nm, hnm⟩ : ∃ r_, nameErr m = r_ := ⟨_, rfl⟩
 have EA := qb.mk hea
 have EM := qb.mk hem
 have CA := qb.mk hna
 have CM := qb.mk hnm
 clear hea hem hna hnm
 go_loopg [94] 2 (fun kq v94 w' => ∃ i : Int, v94 = .int .i64 i ∧ qb (i = 2 - kq) ∧ qb (kq ≤ 2) ∧ qb (Below W8.heap.size W8 w'))
 case atStart => exact ⟨0, rfl, ⟨by omega⟩, ⟨Nat.le_refl _⟩, ⟨Below.refl _ _⟩⟩
 case round =>
  obtain ⟨i, rfl, hi, hk6, HB8⟩ := hrel
  have BLr := qb.mk (q8 BL.out HB8.out)
  match gk, hi, hk6 with
  | 0, hi, hk6 =>
   obtain rfl : i = 2 := by have := hi.out; omega
   clear hi hk6
   go_wp2_with ((with_reducible refine at_c 8 ?_); go_at_call 8; refine (awakeT _ (LibHeld.below HG8.out HB8.out)).mono ?_; rintro e_ Wx ⟨rfl, hq⟩; replace HB8 := qb.mk (qm HB8.out hq); clear hq)
   go_ret
   exact ⟨rfl, qm HB.out HB8.out⟩
  | 2, hi, hk6 =>
   obtain rfl : i = 0 := by have := hi.out; omega
   clear hi hk6
   have y0_ : wr.cell? ⟨gL, 0, none⟩ = some (.slice Aa a.length ca) := (qo BLr.out 0).trans rfl
   go_upto_region 20 with (fail)
   obtain ⟨gP, hgP⟩ : ∃ g_, g_ = wr.heap.size := ⟨_, rfl⟩
   obtain ⟨W9, hWW⟩ : ∃ W_, W_ = wr.alloc (Obj.cells #[Value.slice Aa a.length ca] 31) := ⟨_, rfl⟩
   rw [← hWW, ← hgP]
   replace HB8 := qb.mk (show Below W8.heap.size W8 W9 by rw [hWW]; exact qc HB8.out _)
   have BP := qb.mk (show W9.heap[gP]? = some (.cells #[.slice Aa a.length ca] 31 (0, 0)) by rw [hWW, hgP]; exact heap_alloc_new _ _)
   clear hWW hgP y0_
   have zp : W9.cell? ⟨gP, 0, none⟩ = some (.slice Aa a.length ca) := (qo BP.out 0).trans rfl
   go_upto_region 21 with ((with_reducible refine at_c 20 ?_); go_at_call 20; refine (encT _ (LibHeld.below HG8.out HB8.out) (Kd.xv HC8a.out HB8.out) HPa.out FIa.out EA.out).mono ?_; rintro e_ W10 ⟨rfl, hq⟩; replace BP := qb.mk (q8 BP.out hq); replace HB8 := qb.mk (qm HB8.out hq); have zp2 : W10.cell? ⟨gP, 0, none⟩ = some (.slice Aa a.length ca) := (qo BP.out 0).trans rfl; clear hq)
   go_upto_region 22 with ((with_reducible refine at_c 10 ?_); go_at_call 10; refine (encR _ (Kd.xv HC8a.out HB8.out) HPa.out FIa.out EA.out).mono ?_; rintro e_ W11 ⟨rfl, hq⟩; replace BP := qb.mk (q8 BP.out hq); replace HB8 := qb.mk (qm HB8.out hq); clear hq)
   clear zp zp2
   replace HB8 := qb.mk (qd HB8.out)
   replace BP := qb.mk (qh BP.out)
   refine start_ (n := 15) (S := fun w' => w'.cell? ⟨gP, 0, none⟩ = some (.slice Aa a.length ca)) (ds := []) #[false, false, false, false, false, false, false, false, false, false, false, false, false, false, false] yh rfl rfl ((qo BP.out 0).trans rfl) (fun hHeld => ?_); refine with_tabW chk.tab22 chk.bits22 (fun HT_ HW_ => ?_)
   generalize W11.drew = w20 at BP HB8 hHeld ⊢
   refine take_ (i := 0) (N := (some 108)) (v := ?_) (a' := ?_) #[true, false, false, false, false, false, false, false, false, false, false, false, false, false, false] rfl rfl (jb HT_.out HW_.out yh) (fun _ _ _ h => h) (Or.inl ⟨by rfl, ?_⟩) hHeld ?_ ?_
   rotate_left
   ·rintro w' s0
    go_simp
    with_reducible rfl
   rotate_left
   ·simp only [Act.put, List.setIfInBounds_toArray, List.set_cons_zero, List.set_cons_succ, zo, zr]
    rfl
   refine take_ (i := 2) (N := (some 110)) (v := ?_) (a' := ?_) #[true, false, true, false, false, false, false, false, false, false, false, false, false, false, false] rfl rfl (jb HT_.out HW_.out yh) (fun _ _ _ h => h) (Or.inl ⟨by rfl, ?_⟩) hHeld ?_ ?_
   rotate_left
   ·rintro w' s0
    go_simp
    with_reducible rfl
   rotate_left
   ·simp only [Act.put, List.setIfInBounds_toArray, List.set_cons_zero, List.set_cons_succ, zo, zr]
    rfl
   refine one_ (i := 1) (N := (some 109)) #[true, true, true, false, false, false, false, false, false, false, false, false, false, false, false] rfl rfl (j8 HT_.out yh) (by decide) (fun K hK => ?_)
   refine goes_ Tryz.func21 yh rfl #[.agg #[.slice Aa a.length ca]] (by rfl) rfl rfl cz ?_
   refine (chkT _ (LibHeld.below HG8.out HB8.out) (Kd.xv HC8a.out HB8.out) HPa.out FIa.out CA.out).mono ?_
   rintro e_ w31 ⟨rfl, hq⟩
   refine ⟨_, rfl, ?_⟩
   replace BP := qb.mk (q8 BP.out hq)
   replace HB8 := qb.mk (qm HB8.out hq)
   clear hq
   refine hK.out _ _ ((qo BP.out 0).trans rfl) (fun hHeld => ?_)
   clear hK K
   refine jn (a' := ?_) ?_ ?_
   rotate_left
   ·show Act.put _ (some 109) _ = _
    simp only [Act.put, List.setIfInBounds_toArray, List.set_cons_zero, List.set_cons_succ, zo, zr]
    rfl
   refine one_ (i := 3) (N := (some 111)) #[true, true, true, true, false, false, false, false, false, false, false, false, false, false, false] rfl rfl (j8 HT_.out yh) (by decide) (fun K hK => ?_)
   refine goes_ Tryz.func22 yh rfl #[.agg #[.slice Aa a.length ca]] (by rfl) rfl rfl cz ?_
   refine (chkR _ (Kd.xv HC8a.out HB8.out) HPa.out FIa.out CA.out).mono ?_
   rintro e_ w33 ⟨rfl, hq⟩
   refine ⟨_, rfl, ?_⟩
   replace BP := qb.mk (q8 BP.out hq)
   replace HB8 := qb.mk (qm HB8.out hq)
   clear hq
   refine hK.out _ _ ((qo BP.out 0).trans rfl) (fun hHeld => ?_)
   clear hK K
   refine jn (a' := ?_) ?_ ?_
   rotate_left
   ·show Act.put _ (some 111) _ = _
    simp only [Act.put, List.setIfInBounds_toArray, List.set_cons_zero, List.set_cons_succ, zo, zr]
    rfl
   refine xq (i := 4) (N := (some 112)) (v := ?_) (a' := ?_) #[true, true, true, true, true, false, false, false, false, false, false, false, false, false, false] rfl rfl (xj HT_.out yh) (fun _ _ _ h => h) (Or.inl ⟨by rfl, ?_⟩) ?_ ?_
   rotate_left
   ·intro w'
    go_simp
    with_reducible rfl
   rotate_left
   ·simp only [Act.put, List.setIfInBounds_toArray, List.set_cons_zero, List.set_cons_succ, zo, zr]
    rfl
   refine xq (i := 5) (N := (some 113)) (v := ?_) (a' := ?_) #[true, true, true, true, true, true, false, false, false, false, false, false, false, false, false] rfl rfl (xj HT_.out yh) (fun _ _ _ h => h) (Or.inl ⟨by rfl, ?_⟩) ?_ ?_
   rotate_left
   ·intro w'
    go_simp
    with_reducible rfl
   rotate_left
   ·simp only [Act.put, List.setIfInBounds_toArray, List.set_cons_zero, List.set_cons_succ, zo, zr]
    rfl
   refine xq (i := 6) (N := (some 114)) (v := ?_) (a' := ?_) #[true, true, true, true, true, true, true, false, false, false, false, false, false, false, false] rfl rfl (xj HT_.out yh) (fun _ _ _ h => h) (Or.inl ⟨by rfl, ?_⟩) ?_ ?_
   rotate_left
   ·intro w'
    go_simp
    with_reducible rfl
   rotate_left
   ·simp only [Act.put, List.setIfInBounds_toArray, List.set_cons_zero, List.set_cons_succ, zo, zr]
    rfl
   refine xq (i := 7) (N := (some 115)) (v := ?_) (a' := ?_) #[true, true, true, true, true, true, true, true, false, false, false, false, false, false, false] rfl rfl (xj HT_.out yh) (fun _ _ _ h => h) (Or.inl ⟨by rfl, ?_⟩) ?_ ?_
   rotate_left
   ·intro w'
    go_simp
    with_reducible rfl
   rotate_left
   ·simp only [Act.put, List.setIfInBounds_toArray, List.set_cons_zero, List.set_cons_succ, zo, zr]
    rfl
   refine xq (i := 8) (N := (some 116)) (v := ?_) (a' := ?_) #[true, true, true, true, true, true, true, true, true, false, false, false, false, false, false] rfl rfl (xj HT_.out yh) (fun _ _ _ h => h) (Or.inl ⟨by rfl, ?_⟩) ?_ ?_
   rotate_left
   ·intro w'
    go_simp
    with_reducible rfl
   rotate_left
   ·simp only [Act.put, List.setIfInBounds_toArray, List.set_cons_zero, List.set_cons_succ, zo, zr]
    rfl
   refine xq (i := 9) (N := (some 117)) (v := ?_) (a' := ?_) #[true, true, true, true, true, true, true, true, true, true, false, false, false, false, false] rfl rfl (xj HT_.out yh) (fun _ _ _ h => h) (Or.inl ⟨by rfl, ?_⟩) ?_ ?_
   rotate_left
   ·intro w'
    go_simp
    with_reducible rfl
   rotate_left
   ·simp only [Act.put, List.setIfInBounds_toArray, List.set_cons_zero, List.set_cons_succ, zo, zr]
    rfl
   refine xq (i := 10) (N := (some 118)) (v := ?_) (a' := ?_) #[true, true, true, true, true, true, true, true, true, true, true, false, false, false, false] rfl rfl (xj HT_.out yh) (fun _ _ _ h => h) (Or.inl ⟨by rfl, ?_⟩) ?_ ?_
   rotate_left
   ·intro w'
    go_simp
    with_reducible rfl
   rotate_left
   ·simp only [Act.put, List.setIfInBounds_toArray, List.set_cons_zero, List.set_cons_succ, zo, zr]
    rfl
   refine xq (i := 11) (N := (some 119)) (v := ?_) (a' := ?_) #[true, true, true, true, true, true, true, true, true, true, true, true, false, false, false] rfl rfl (xj HT_.out yh) (fun _ _ _ h => h) (Or.inl ⟨by rfl, ?_⟩) ?_ ?_
   rotate_left
   ·intro w'
    go_simp
    with_reducible rfl
   rotate_left
   ·simp only [Act.put, List.setIfInBounds_toArray, List.set_cons_zero, List.set_cons_succ, zo, zr]
    rfl
   refine xq (i := 12) (N := (some 120)) (v := ?_) (a' := ?_) #[true, true, true, true, true, true, true, true, true, true, true, true, true, false, false] rfl rfl (xj HT_.out yh) (fun _ _ _ h => h) (Or.inl ⟨by rfl, ?_⟩) ?_ ?_
   rotate_left
   ·intro w'
    go_simp
    with_reducible rfl
   rotate_left
   ·simp only [Act.put, List.setIfInBounds_toArray, List.set_cons_zero, List.set_cons_succ, zo, zr]
    rfl
   refine xq (i := 13) (N := (some 121)) (v := ?_) (a' := ?_) #[true, true, true, true, true, true, true, true, true, true, true, true, true, true, false] rfl rfl (xj HT_.out yh) (fun _ _ _ h => h) (Or.inl ⟨by rfl, ?_⟩) ?_ ?_
   rotate_left
   ·intro w'
    go_simp
    with_reducible rfl
   rotate_left
   ·simp only [Act.put, List.setIfInBounds_toArray, List.set_cons_zero, List.set_cons_succ, zo, zr]
    rfl
   refine xq (i := 14) (N := (some 122)) (v := ?_) (a' := ?_) #[true, true, true, true, true, true, true, true, true, true, true, true, true, true, true] rfl rfl (xj HT_.out yh) (fun _ _ _ h => h) (Or.inl ⟨by rfl, ?_⟩) ?_ ?_
   rotate_left
   ·intro w'
    go_simp
    with_reducible rfl
   rotate_left
   ·simp only [Act.put, List.setIfInBounds_toArray, List.set_cons_zero, List.set_cons_succ, zo, zr]
    rfl
   refine done_ (done_of HT_.out yh) ?_
   go_wp2
   go_roundg 1
   case measure => omega
   case rel => exact ⟨1, rfl, ⟨by omega⟩, ⟨by omega⟩, HB8⟩
  | 1, hi, hk6 =>
   obtain rfl : i = 1 := by have := hi.out; omega
   clear hi hk6
   have y0_ : wr.cell? ⟨gL, 1, none⟩ = some (.slice An m.length cn) := (qo BLr.out 1).trans rfl
   go_upto_region 20 with (fail)
   obtain ⟨gP, hgP⟩ : ∃ g_, g_ = wr.heap.size := ⟨_, rfl⟩
   obtain ⟨W9, hWW⟩ : ∃ W_, W_ = wr.alloc (Obj.cells #[Value.slice An m.length cn] 31) := ⟨_, rfl⟩
   rw [← hWW, ← hgP]
   replace HB8 := qb.mk (show Below W8.heap.size W8 W9 by rw [hWW]; exact qc HB8.out _)
   have BP := qb.mk (show W9.heap[gP]? = some (.cells #[.slice An m.length cn] 31 (0, 0)) by rw [hWW, hgP]; exact heap_alloc_new _ _)
   clear hWW hgP y0_
   have zp : W9.cell? ⟨gP, 0, none⟩ = some (.slice An m.length cn) := (qo BP.out 0).trans rfl
   go_upto_region 21 with ((with_reducible refine at_c 20 ?_); go_at_call 20; refine (encT _ (LibHeld.below HG8.out HB8.out) (Kd.xv HC8m.out HB8.out) HPm.out FIm.out EM.out).mono ?_; rintro e_ W10 ⟨rfl, hq⟩; replace BP := qb.mk (q8 BP.out hq); replace HB8 := qb.mk (qm HB8.out hq); have zp2 : W10.cell? ⟨gP, 0, none⟩ = some (.slice An m.length cn) := (qo BP.out 0).trans rfl; clear hq)
   go_upto_region 22 with ((with_reducible refine at_c 10 ?_); go_at_call 10; refine (encR _ (Kd.xv HC8m.out HB8.out) HPm.out FIm.out EM.out).mono ?_; rintro e_ W11 ⟨rfl, hq⟩; replace BP := qb.mk (q8 BP.out hq); replace HB8 := qb.mk (qm HB8.out hq); clear hq)
   clear zp zp2
   replace HB8 := qb.mk (qd HB8.out)
   replace BP := qb.mk (qh BP.out)
   refine start_ (n := 15) (S := fun w' => w'.cell? ⟨gP, 0, none⟩ = some (.slice An m.length cn)) (ds := []) #[false, false, false, false, false, false, false, false, false, false, false, false, false, false, false] yh rfl rfl ((qo BP.out 0).trans rfl) (fun hHeld => ?_); refine with_tabW chk.tab22 chk.bits22 (fun HT_ HW_ => ?_)
   generalize W11.drew = w20 at BP HB8 hHeld ⊢
   refine take_ (i := 0) (N := (some 108)) (v := ?_) (a' := ?_) #[true, false, false, false, false, false, false, false, false, false, false, false, false, false, false] rfl rfl (jb HT_.out HW_.out yh) (fun _ _ _ h => h) (Or.inl ⟨by rfl, ?_⟩) hHeld ?_ ?_
   rotate_left
   ·rintro w' s0
    go_simp
    with_reducible rfl
   rotate_left
   ·simp only [Act.put, List.setIfInBounds_toArray, List.set_cons_zero, List.set_cons_succ, zo, zr]
    rfl
   refine take_ (i := 2) (N := (some 110)) (v := ?_) (a' := ?_) #[true, false, true, false, false, false, false, false, false, false, false, false, false, false, false] rfl rfl (jb HT_.out HW_.out yh) (fun _ _ _ h => h) (Or.inl ⟨by rfl, ?_⟩) hHeld ?_ ?_
   rotate_left
   ·rintro w' s0
    go_simp
    with_reducible rfl
   rotate_left
   ·simp only [Act.put, List.setIfInBounds_toArray, List.set_cons_zero, List.set_cons_succ, zo, zr]
    rfl
   refine one_ (i := 1) (N := (some 109)) #[true, true, true, false, false, false, false, false, false, false, false, false, false, false, false] rfl rfl (j8 HT_.out yh) (by decide) (fun K hK => ?_)
   refine goes_ Tryz.func21 yh rfl #[.agg #[.slice An m.length cn]] (by rfl) rfl rfl cz ?_
   refine (chkT _ (LibHeld.below HG8.out HB8.out) (Kd.xv HC8m.out HB8.out) HPm.out FIm.out CM.out).mono ?_
   rintro e_ w31 ⟨rfl, hq⟩
   refine ⟨_, rfl, ?_⟩
   replace BP := qb.mk (q8 BP.out hq)
   replace HB8 := qb.mk (qm HB8.out hq)
   clear hq
   refine hK.out _ _ ((qo BP.out 0).trans rfl) (fun hHeld => ?_)
   clear hK K
   refine jn (a' := ?_) ?_ ?_
   rotate_left
   ·show Act.put _ (some 109) _ = _
    simp only [Act.put, List.setIfInBounds_toArray, List.set_cons_zero, List.set_cons_succ, zo, zr]
    rfl
   refine one_ (i := 3) (N := (some 111)) #[true, true, true, true, false, false, false, false, false, false, false, false, false, false, false] rfl rfl (j8 HT_.out yh) (by decide) (fun K hK => ?_)
   refine goes_ Tryz.func22 yh rfl #[.agg #[.slice An m.length cn]] (by rfl) rfl rfl cz ?_
   refine (chkR _ (Kd.xv HC8m.out HB8.out) HPm.out FIm.out CM.out).mono ?_
   rintro e_ w33 ⟨rfl, hq⟩
   refine ⟨_, rfl, ?_⟩
   replace BP := qb.mk (q8 BP.out hq)
   replace HB8 := qb.mk (qm HB8.out hq)
   clear hq
   refine hK.out _ _ ((qo BP.out 0).trans rfl) (fun hHeld => ?_)
   clear hK K
   refine jn (a' := ?_) ?_ ?_
   rotate_left
   ·show Act.put _ (some 111) _ = _
    simp only [Act.put, List.setIfInBounds_toArray, List.set_cons_zero, List.set_cons_succ, zo, zr]
    rfl
   refine xq (i := 4) (N := (some 112)) (v := ?_) (a' := ?_) #[true, true, true, true, true, false, false, false, false, false, false, false, false, false, false] rfl rfl (xj HT_.out yh) (fun _ _ _ h => h) (Or.inl ⟨by rfl, ?_⟩) ?_ ?_
   rotate_left
   ·intro w'
    go_simp
    with_reducible rfl
   rotate_left
   ·simp only [Act.put, List.setIfInBounds_toArray, List.set_cons_zero, List.set_cons_succ, zo, zr]
    rfl
   refine xq (i := 5) (N := (some 113)) (v := ?_) (a' := ?_) #[true, true, true, true, true, true, false, false, false, false, false, false, false, false, false] rfl rfl (xj HT_.out yh) (fun _ _ _ h => h) (Or.inl ⟨by rfl, ?_⟩) ?_ ?_
   rotate_left
   ·intro w'
    go_simp
    with_reducible rfl
   rotate_left
   ·simp only [Act.put, List.setIfInBounds_toArray, List.set_cons_zero, List.set_cons_succ, zo, zr]
    rfl
   refine xq (i := 6) (N := (some 114)) (v := ?_) (a' := ?_) #[true, true, true, true, true, true, true, false, false, false, false, false, false, false, false] rfl rfl (xj HT_.out yh) (fun _ _ _ h => h) (Or.inl ⟨by rfl, ?_⟩) ?_ ?_
   rotate_left
   ·intro w'
    go_simp
    with_reducible rfl
   rotate_left
   ·simp only [Act.put, List.setIfInBounds_toArray, List.set_cons_zero, List.set_cons_succ, zo, zr]
    rfl
   refine xq (i := 7) (N := (some 115)) (v := ?_) (a' := ?_) #[true, true, true, true, true, true, true, true, false, false, false, false, false, false, false] rfl rfl (xj HT_.out yh) (fun _ _ _ h => h) (Or.inl ⟨by rfl, ?_⟩) ?_ ?_
   rotate_left
   ·intro w'
    go_simp
    with_reducible rfl
   rotate_left
   ·simp only [Act.put, List.setIfInBounds_toArray, List.set_cons_zero, List.set_cons_succ, zo, zr]
    rfl
   refine xq (i := 8) (N := (some 116)) (v := ?_) (a' := ?_) #[true, true, true, true, true, true, true, true, true, false, false, false, false, false, false] rfl rfl (xj HT_.out yh) (fun _ _ _ h => h) (Or.inl ⟨by rfl, ?_⟩) ?_ ?_
   rotate_left
   ·intro w'
    go_simp
    with_reducible rfl
   rotate_left
   ·simp only [Act.put, List.setIfInBounds_toArray, List.set_cons_zero, List.set_cons_succ, zo, zr]
    rfl
   refine xq (i := 9) (N := (some 117)) (v := ?_) (a' := ?_) #[true, true, true, true, true, true, true, true, true, true, false, false, false, false, false] rfl rfl (xj HT_.out yh) (fun _ _ _ h => h) (Or.inl ⟨by rfl, ?_⟩) ?_ ?_
   rotate_left
   ·intro w'
    go_simp
    with_reducible rfl
   rotate_left
   ·simp only [Act.put, List.setIfInBounds_toArray, List.set_cons_zero, List.set_cons_succ, zo, zr]
    rfl
   refine xq (i := 10) (N := (some 118)) (v := ?_) (a' := ?_) #[true, true, true, true, true, true, true, true, true, true, true, false, false, false, false] rfl rfl (xj HT_.out yh) (fun _ _ _ h => h) (Or.inl ⟨by rfl, ?_⟩) ?_ ?_
   rotate_left
   ·intro w'
    go_simp
    with_reducible rfl
   rotate_left
   ·simp only [Act.put, List.setIfInBounds_toArray, List.set_cons_zero, List.set_cons_succ, zo, zr]
    rfl
   refine xq (i := 11) (N := (some 119)) (v := ?_) (a' := ?_) #[true, true, true, true, true, true, true, true, true, true, true, true, false, false, false] rfl rfl (xj HT_.out yh) (fun _ _ _ h => h) (Or.inl ⟨by rfl, ?_⟩) ?_ ?_
   rotate_left
   ·intro w'
    go_simp
    with_reducible rfl
   rotate_left
   ·simp only [Act.put, List.setIfInBounds_toArray, List.set_cons_zero, List.set_cons_succ, zo, zr]
    rfl
   refine xq (i := 12) (N := (some 120)) (v := ?_) (a' := ?_) #[true, true, true, true, true, true, true, true, true, true, true, true, true, false, false] rfl rfl (xj HT_.out yh) (fun _ _ _ h => h) (Or.inl ⟨by rfl, ?_⟩) ?_ ?_
   rotate_left
   ·intro w'
    go_simp
    with_reducible rfl
   rotate_left
   ·simp only [Act.put, List.setIfInBounds_toArray, List.set_cons_zero, List.set_cons_succ, zo, zr]
    rfl
   refine xq (i := 13) (N := (some 121)) (v := ?_) (a' := ?_) #[true, true, true, true, true, true, true, true, true, true, true, true, true, true, false] rfl rfl (xj HT_.out yh) (fun _ _ _ h => h) (Or.inl ⟨by rfl, ?_⟩) ?_ ?_
   rotate_left
   ·intro w'
    go_simp
    with_reducible rfl
   rotate_left
   ·simp only [Act.put, List.setIfInBounds_toArray, List.set_cons_zero, List.set_cons_succ, zo, zr]
    rfl
   refine xq (i := 14) (N := (some 122)) (v := ?_) (a' := ?_) #[true, true, true, true, true, true, true, true, true, true, true, true, true, true, true] rfl rfl (xj HT_.out yh) (fun _ _ _ h => h) (Or.inl ⟨by rfl, ?_⟩) ?_ ?_
   rotate_left
   ·intro w'
    go_simp
    with_reducible rfl
   rotate_left
   ·simp only [Act.put, List.setIfInBounds_toArray, List.set_cons_zero, List.set_cons_succ, zo, zr]
    rfl
   refine done_ (done_of HT_.out yh) ?_
   go_wp2
   go_roundg 0
   case measure => omega
   case rel => exact ⟨2, rfl, ⟨by omega⟩, ⟨by omega⟩, HB8⟩
  | n_ + 3, hi, hk6 => exact absurd hk6.out yg
def jo.Pure : Prop := True
theorem jo.walk (P : jo.Pure) (Aa : Option Addr) (ca : Nat) (na : List (List S40)) (a0 : Option Addr) (len0 cap0 : Nat) (z0 : List Int) (t : ByteArray) (kd : Int) (v : ByteArray) (w : World) (hG : LibHeld w) (hca : Kd.C (Kd.slice 40 k40) w Aa na.length na) (hpa : na.length ≤ ca) (hBa : BigN na)
  (w0 : (a0 = none ∧ len0 = 0 ∧ cap0 = 0 ∧ z0 = []) ∨ ∃ x, a0 = some x ∧ len0 ≤ cap0 ∧ cap0 ≤ maxLen ∧ z0.length = cap0 ∧ (∀ i, i < z0.length → w.cell? (x.add i) = some (.int .i64 (z0.getD i 0))) ∧ ∀ n ∈ z0, (Lit.int .i64 n).wf = true) (y0 : len0 * 8 ≤ 140737488351232) (ht : t.size ≤ 9223372036854775807) (hv : v.size ≤ 9223372036854775807) :
  Calls Tryz.prog 4 #[.agg #[.slice Aa na.length ca], .slice a0 len0 cap0, .agg #[.string t, .int .i64 kd, .string v]] w fun e w' => e = .returned (.bool true) ∧ Below w.heap.size w w' := by
 obtain ⟨l0, rfl, hr0, hm0, hw0, hc0⟩ := ReadsInt.ofRowC w0
 exact check_calls Aa _ ca _ na l0 t kd v w hG hca hpa hBa ht hv (Kd.C_of_reads (d := (0 : Int)) (h1 := fun _ => rfl) hr0) hc0 yg
end Go.Proofs.YthdoohfdminfgaaGreatDoor.C
namespace Go.Proofs.YthdoohfdminfgaaGreatDoor.Pure
open Go.Proofs.YthdoohfdminfgaaGreatDoor.C
theorem NameCheck : jo.Pure := trivial
end Go.Proofs.YthdoohfdminfgaaGreatDoor.Pure
end
section
namespace Go.Proofs.YthdoohfdminfgaaGreatDoorW.PrintWords
open Go.ChangeShapes Go.WideShapes
theorem sized_ints {H : Type} {enc : TypeId × Value → H} {P : Program} {W : World} {base : Nat} {spare : Nat → Bool} {held : Bool} {t e : TypeId} {k : IntKind} {a : Option Addr} {len cap : Nat} {d : DataW H} {ps : List MemPlace} {ts : List TypeId} {ds : List (DataW H)} {j : Nat}
  (hsz : (DataW.weightsEach P ts ds).all (· ≤ reachBytes) = true) (ht : ts[j]? = some t) (hd : ds[j]? = some d) (hu : P.underlying t = some (.slice e)) (he : P.underlying e = some (.int k)) (hc : P.cellsOf e = 1) {B : Nat} (hB : P.bytesOf e = B)
  (h : DataW.Trod enc P W base spare held t (.slice a len cap) d ps) : len * B ≤ 140737488351232 := by
 obtain ⟨fuel, hf⟩ := h
 rcases open_ints hu he hc hf with ⟨hcs, _⟩ | ⟨x, l, c, zs, hcs, _, hl, _, hz, hx, _, _⟩
 ·simp [Value.cells] at hcs
  obtain ⟨rfl, rfl, rfl⟩ := hcs
  simp
 ·simp [Value.cells] at hcs
  obtain ⟨rfl, rfl, rfl⟩ := hcs
  obtain ⟨hx, _⟩ := Prod.mk.inj hx
  subst hx
  have z := sized_slice hsz ht hd hu
  rw [hB] at z
  have hl2 : len ≤ zs.length := by
   rw [hz]
   split
   ·exact hl
   ·exact Nat.le_refl _
  have h1 : (lits (H := H) k (zs.take len)).length + (lits (H := H) k (zs.drop len)).length = zs.length := by
   simp [lits]
   omega
  rw [h1] at z
  exact Nat.le_trans (Nat.mul_le_mul_right _ hl2) z
end Go.Proofs.YthdoohfdminfgaaGreatDoorW.PrintWords
end
