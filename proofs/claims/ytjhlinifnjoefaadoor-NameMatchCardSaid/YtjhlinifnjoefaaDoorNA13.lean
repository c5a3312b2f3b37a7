/- Words, walks and plain laws that the claim rests on, gathered. -/
import Derived.Below
import Derived.Deep.Draws
import Derived.Deep.AppendLies
import Derived.Maps.AppendAt
import Derived.OwnWalk
import Derived.Laws.BytesArg
import Derived.Laws.MakeOwn
import Derived.Laws.OwnMore
import Derived.Deep.OwnRows
import Derived.Tactics
import Derived.Lib.ConvBytes
import Derived.Laws.Slices
import Derived.WalkKit
import Derived.KernelRfl
import Derived.RowKit3
import Derived.Deep.LoopGhost
import Derived.Deep.QuietTactic
import Derived.BigQuiet
import Derived.WideLaws
import Derived.Deep.DeepCutAuto
import Derived.Deep.CutBlock
import Derived.Deep.RegionHeld3
import Derived.Laws.Rows
import Derived.Lib.AppendStr
import Derived.ArgAppend
import Derived.Laws.IdiomCopy
import Derived.RowKit
import Derived.Lib.SplitLaws
import Derived.OrdersHeld
import Derived.Laws.BitsLemmas
import Derived.Deep.Slices
import Derived.Deep.Strs
import Derived.ChangeSame
import Derived.WideShapes
import Derived.Laws.StructEq
import Derived.Test.YtjhlinifnjoefaaDoorProg
import Derived.WalkSpells
import Derived.Shelf.Small.Strs
import Derived.Shelf.Strings.Search1
import Derived.Shelf.Strings.Search2
import Derived.Shelf.Strings.Search3
import Derived.Shelf.Strings.Cut
import Derived.Shelf.Strings.Count
import Derived.Shelf.LaysM
import Derived.Shelf.Strings.Shaped
import Derived.Shelf.Strings.Prefix
import Derived.Shelf.Strings.Split
import Derived.Shelf.Strings.SplitShaped
import Derived.Shelf.Unicode.DecodeSlow
import Derived.Test.YtjhlinifnjoefaaDoorNA0
import Derived.Test.YtjhlinifnjoefaaDoorNA1
import Derived.Test.YtjhlinifnjoefaaDoorNA2
import Derived.Test.YtjhlinifnjoefaaDoorNA3
import Derived.Test.YtjhlinifnjoefaaDoorNA4
import Derived.Test.YtjhlinifnjoefaaDoorNA5
import Derived.Test.YtjhlinifnjoefaaDoorNA6
import Derived.Test.YtjhlinifnjoefaaDoorNA7
import Derived.Test.YtjhlinifnjoefaaDoorNA8
import Derived.Test.YtjhlinifnjoefaaDoorNA9
import Derived.Test.YtjhlinifnjoefaaDoorNA10
import Derived.Test.YtjhlinifnjoefaaDoorNA11
import Derived.Test.YtjhlinifnjoefaaDoorNA12
namespace Go.Proofs.YtjhlinifnjoefaaDoorW.PrintLast
end Go.Proofs.YtjhlinifnjoefaaDoorW.PrintLast
namespace Go.Proofs.YtjhlinifnjoefaaDoorW.PrintMore
end Go.Proofs.YtjhlinifnjoefaaDoorW.PrintMore
namespace Go.Proofs.YtjhlinifnjoefaaDoorW.PrintWords
end Go.Proofs.YtjhlinifnjoefaaDoorW.PrintWords
section
namespace Go.Proofs.YtjhlinifnjoefaaDoor.C
open Go.RowKit Go.Proofs.YtjhlinifnjoefaaDoorW.PrintWords Go.Proofs.YtjhlinifnjoefaaDoorW.PrintLast Go.Proofs.YtjhlinifnjoefaaDoorW.PrintMore Go.Proofs.YtjhlinifnjoefaaDoor.Pl
attribute [local go_sem] xr xp xw xx xf xe xq xo
set_option linter.unusedVariables false
set_option linter.unusedSimpArgs false
def mat.T6 : Bool × List (List Nat × List Nat) := (true, [([], []), ([0], [0]), ([], []), ([], []), ([3], [3]), ([4], [4]), ([5], [5]), ([2, 6], [2, 6]), ([1, 7], [1, 7]), ([8], [8]), ([], []), ([10, 9, 7, 0, 1, 2, 3, 4, 5, 6, 7, 8, 9, 10], [9, 10])])
def mat.B6 : List Nat := [0, 1, 0, 0, 8, 24, 56, 124, 255, 511, 0, 2047]
theorem mat.tab6 : rtab .any (opsOf Tryd.f4 6) = mat.T6 := by kernel_rfl
theorem mat.bits6 : waitsOk mat.T6.2 mat.B6 = true := by kernel_rfl
def mat.T11 : Bool × List (List Nat × List Nat) := (true, [([], []), ([0], [0]), ([], []), ([2], [2]), ([1, 3], [1, 3]), ([], []), ([5], [5]), ([], []), ([7], [7]), ([6, 8, 4], [6, 8]), ([4, 9], [4, 9]), ([10, 9], [10]), ([11], [11]), ([12, 11], [11, 12]), ([11], [11]), ([14, 11], [11, 14]), ([13, 15, 11, 11], [11, 13, 15]), ([11], [11]), ([17, 11], [11, 17]), ([11], [11]), ([19, 11], [11, 19]), ([18, 20, 16, 11], [11, 18, 20]), ([16, 21, 11], [11, 16, 21]), ([11, 22], [11, 22])])
def mat.B11 : List Nat := [0, 1, 0, 4, 15, 0, 32, 0, 128, 511, 1023, 2047, 4095, 8191, 4095, 20479, 65535, 4095, 135167, 4095, 528383, 2097151, 4194303, 8388607]
theorem mat.tab11 : rtab .any (opsOf Tryd.f4 11) = mat.T11 := by kernel_rfl
theorem mat.bits11 : waitsOk mat.T11.2 mat.B11 = true := by kernel_rfl
set_option maxHeartbeats 16000000 in
set_option maxRecDepth 100000 in
theorem match_calls (Aa Ab A0 : Option Addr) (ca cb c0 : Nat) (a b : List (List S26)) (l : List Int) (u : World) (hG : LibHeld u) (hca : Kd.C (Kd.slice 26 k26) u Aa a.length a) (hcb : Kd.C (Kd.slice 26 k26) u Ab b.length b) (hpa : a.length ≤ ca) (hpb : b.length ≤ cb) (hBa : BigN a) (hBb : BigN b)
  (hl : Kd.C (Kd.int .i64) u A0 l.length l) (hc : l.length ≤ c0) (hL : l.length ≤ 140737488351232) :
  Calls Tryd.prog 4 #[.agg #[.slice Aa a.length ca], .agg #[.slice Ab b.length cb], .slice A0 l.length c0] u fun e w' => e = .returned (.bool true) ∧ Below u.heap.size u w' := by
 have hu24 := Tryd.underlying24
 have hu41 := Tryd.underlying41
 have HG := qa.mk hG
 have HCa0 := qa.mk hca
 have HCb0 := qa.mk hcb
 have HPa := qa.mk hpa
 have HPb := qa.mk hpb
 have HL := qa.mk hl
 have HC := qa.mk hc
 have HLL := qa.mk hL
 obtain ⟨ra, ⟨ka, hka⟩, hfa⟩ := short_f a hBa
 obtain ⟨rb, ⟨kb, hkb⟩, hfb⟩ := short_f b hBb
 have KA := qa.mk hka
 have KB := qa.mk hkb
 have FA := qa.mk hfa
 have FB := qa.mk hfb
 clear hG hca hcb hpa hpb hl hc hL hka hkb hfa hfb hBa hBb
 go_enter Tryd.func4, Tryd.ntmps4
 go_upto_region 1 with (fail)
 obtain ⟨W1, hWW⟩ : ∃ W_, W_ = (u.alloc (Obj.cells #[Value.slice Aa a.length ca] 24)).alloc (Obj.cells #[Value.slice Ab b.length cb] 24) := ⟨_, rfl⟩
 rw [← hWW]
 have HU := qa.mk (show Below u.heap.size u W1 by rw [hWW]; exact qc (qc (Below.refl _ _) _) _)
 have BKa := qa.mk (show W1.heap[u.heap.size]? = some (.cells #[.slice Aa a.length ca] 24 (0, 0)) by rw [hWW]; exact qf (heap_alloc_new u _) _)
 have BKb := qa.mk (show W1.heap[u.heap.size + 1]? = some (.cells #[.slice Ab b.length cb] 24 (0, 0)) by rw [hWW]; simpa using heap_alloc_new (u.alloc (Obj.cells #[Value.slice Aa a.length ca] 24)) (Obj.cells #[Value.slice Ab b.length cb] 24))
 clear hWW
 generalize u.heap.size + 1 = gb at BKb ⊢
 obtain ⟨ga, hga⟩ : ∃ x, x = u.heap.size := ⟨_, rfl⟩
 rw [← hga] at BKa ⊢
 clear hga
 have za : W1.cell? ⟨ga, 0, none⟩ = some (.slice Aa a.length ca) := (qi BKa.out 0).trans rfl
 cases ra with
 | false =>
  go_wp2_with (first | ((with_reducible refine at_c 10 ?_); go_at_call 10; (with_reducible refine (qr.calls ka Aa ca a _ _ (Kd.xc HCa0.out HU.out) HPa.out KA.out).mono ?_); rintro e W2 ⟨rfl, hq⟩; have h1 := qt BKa.out hq; have h2 := qt BKb.out hq; have h3 := qj HU.out hq; replace BKa := qa.mk h1; replace BKb := qa.mk h2; replace HU := qa.mk h3; clear hq h1 h2 h3; have zb : W2.cell? ⟨gb, 0, none⟩ = some (.slice Ab b.length cb) := (qi BKb.out 0).trans rfl) | ((with_reducible refine at_c 9 ?_); go_at_call 9; refine (awakeT _ (LibHeld.below HG.out HU.out)).mono ?_; rintro e W4 ⟨rfl, hq⟩; have h3 := qj HU.out hq; replace HU := qa.mk h3; clear hq h3))
  go_ret
  exact ⟨rfl, HU.out⟩
 | true =>
  cases rb with
  | false =>
   go_wp2_with (first | ((with_reducible refine at_c 10 ?_); go_at_call 10; (with_reducible refine (qr.calls ka Aa ca a _ _ (Kd.xc HCa0.out HU.out) HPa.out KA.out).mono ?_); rintro e W2 ⟨rfl, hq⟩; have h1 := qt BKa.out hq; have h2 := qt BKb.out hq; have h3 := qj HU.out hq; replace BKa := qa.mk h1; replace BKb := qa.mk h2; replace HU := qa.mk h3; clear hq h1 h2 h3; have zb : W2.cell? ⟨gb, 0, none⟩ = some (.slice Ab b.length cb) := (qi BKb.out 0).trans rfl) | ((with_reducible refine at_c 10 ?_); go_at_call 10; (with_reducible refine (qr.calls kb Ab cb b _ _ (Kd.xc HCb0.out HU.out) HPb.out KB.out).mono ?_); rintro e W3 ⟨rfl, hq⟩; have h1 := qt BKa.out hq; have h2 := qt BKb.out hq; have h3 := qj HU.out hq; replace BKa := qa.mk h1; replace BKb := qa.mk h2; replace HU := qa.mk h3; clear hq h1 h2 h3) | ((with_reducible refine at_c 9 ?_); go_at_call 9; refine (awakeT _ (LibHeld.below HG.out HU.out)).mono ?_; rintro e W4 ⟨rfl, hq⟩; have h3 := qj HU.out hq; replace HU := qa.mk h3; clear hq h3))
   go_ret
   exact ⟨rfl, HU.out⟩
  | true =>
  have FIa := qa.mk (FA.out rfl)
  have FIb := qa.mk (FB.out rfl)
  clear FA FB
  go_upto_region 3 with (first | ((with_reducible refine at_c 10 ?_); go_at_call 10; (with_reducible refine (qr.calls ka Aa ca a _ _ (Kd.xc HCa0.out HU.out) HPa.out KA.out).mono ?_); rintro e W2 ⟨rfl, hq⟩; have h1 := qt BKa.out hq; have h2 := qt BKb.out hq; have h3 := qj HU.out hq; replace BKa := qa.mk h1; replace BKb := qa.mk h2; replace HU := qa.mk h3; clear hq h1 h2 h3; have zb : W2.cell? ⟨gb, 0, none⟩ = some (.slice Ab b.length cb) := (qi BKb.out 0).trans rfl) | ((with_reducible refine at_c 10 ?_); go_at_call 10; (with_reducible refine (qr.calls kb Ab cb b _ _ (Kd.xc HCb0.out HU.out) HPb.out KB.out).mono ?_); rintro e W3 ⟨rfl, hq⟩; have h1 := qt BKa.out hq; have h2 := qt BKb.out hq; have h3 := qj HU.out hq; replace BKa := qa.mk h1; replace BKb := qa.mk h2; replace HU := qa.mk h3; clear hq h1 h2 h3))
  clear KA KB za zb
  rename World => w
  have HCa := qa.mk (Kd.xc HCa0.out HU.out)
  have HCb := qa.mk (Kd.xc HCb0.out HU.out)
  have GGa := qa.mk (show ga < w.heap.size from zl BKa.out)
  have GGb := qa.mk (show gb < w.heap.size from zl BKb.out)
  skip
  go_upto_region 4 with ((with_reducible refine at_c 11 ?_); go_at_call 11; refine (newT _ A0 c0 l (Kd.xc HL.out HU.out) HC.out HLL.out).mono ?_; rintro e W5 ⟨g, rfl, di, hb⟩; have DI := qa.mk di; have HB := qa.mk hb; replace BKa := qa.mk (qt BKa.out hb); replace BKb := qa.mk (qt BKb.out hb); have NEa := qa.mk (show ga ≠ g from Nat.ne_of_lt (Nat.lt_of_lt_of_le GGa.out di.ge)); have NEb := qa.mk (show gb ≠ g from Nat.ne_of_lt (Nat.lt_of_lt_of_le GGb.out di.ge)); clear di hb)
  go_upto_region 5 with ((with_reducible refine at_c 12 ?_); go_at_call 12; refine (nameT w _ DI.out HB.out).mono ?_; rintro e W11 ⟨An, cn, n, rfl, ti, rm, na, di, hb, hk⟩; replace DI := qa.mk di; replace HB := qa.mk hb; replace BKa := qa.mk (KeepBut.blk hk BKa.out NEa.out (by simp)); replace BKb := qa.mk (KeepBut.blk hk BKb.out NEb.out (by simp)); clear di hb hk; have NAn := qa.mk na; have TIn := qa.mk ti; have FIn := qa.mk (ti.fine (by omega)); clear na ti rm)
  obtain ⟨W12, hWW⟩ : ∃ W_, W_ = W11.alloc (Obj.cells #[.slice An n.length cn] 24) := ⟨_, rfl⟩
  rw [← hWW]
  have BKn := qa.mk (show W12.heap[W11.heap.size]? = some (.cells #[.slice An n.length cn] 24 (0, 0)) by rw [hWW]; exact heap_alloc_new _ _)
  have NEn := qa.mk (show W11.heap.size ≠ g from Nat.ne_of_gt DI.out.lt)
  have GEn := qa.mk (show w.heap.size ≤ W11.heap.size from HB.out.size)
  have Na_n := qa.mk (show ga ≠ W11.heap.size from Nat.ne_of_lt (zl BKa.out))
  have Nb_n := qa.mk (show gb ≠ W11.heap.size from Nat.ne_of_lt (zl BKb.out))
  have hb0 : Below (W11).heap.size W11 _ := (show Below W11.heap.size W11 W12 by rw [hWW]; exact qc (Below.refl _ _) _)
  have di := DI.out.below hb0
  have hb := qj HB.out hb0
  have hk := KeepBut.of_below hb0 g none
  clear hb0
  replace DI := qa.mk di
  replace HB := qa.mk hb
  replace BKa := qa.mk (KeepBut.blk hk BKa.out NEa.out (by simp))
  replace BKb := qa.mk (KeepBut.blk hk BKb.out NEb.out (by simp))
  replace NAn := qa.mk (NAn.out.keep (KeepT.of hk))
  clear di hb hk
  clear hWW
  generalize W11.heap.size = gn at BKn NEn GEn Na_n Nb_n ⊢
  have zn : W12.cell? ⟨gn, 0, none⟩ = some (.slice An n.length cn) := (qi BKn.out 0).trans rfl
  go_upto_region 6 with ((with_reducible refine at_c 13 ?_); go_at_call 13; refine (spellT w _ DI.out HB.out NAn.out (TIn.out.short (by omega))).mono ?_; rintro e W13 ⟨Am, cm, m, rfl, sp, na, di, hb, hk⟩; replace DI := qa.mk di; replace HB := qa.mk hb; replace BKa := qa.mk (KeepBut.blk hk BKa.out NEa.out (by simp)); replace BKb := qa.mk (KeepBut.blk hk BKb.out NEb.out (by simp)); replace BKn := qa.mk (KeepBut.blk hk BKn.out NEn.out (by simp)); replace NAn := qa.mk (NAn.out.keep (KeepT.of hk)); clear di hb hk; have NAm := qa.mk na; have SPm := qa.mk sp; have TIm := qa.mk (TIn.out.spell sp); have FIm := qa.mk (TIm.out.fine (by omega)); clear na sp)
  clear zn
  obtain ⟨W14, hWW⟩ : ∃ W_, W_ = W13.alloc (Obj.cells #[.slice Am m.length cm] 24) := ⟨_, rfl⟩
  rw [← hWW]
  have BKm := qa.mk (show W14.heap[W13.heap.size]? = some (.cells #[.slice Am m.length cm] 24 (0, 0)) by rw [hWW]; exact heap_alloc_new _ _)
  have NEm := qa.mk (show W13.heap.size ≠ g from Nat.ne_of_gt DI.out.lt)
  have GEm := qa.mk (show w.heap.size ≤ W13.heap.size from HB.out.size)
  have Na_m := qa.mk (show ga ≠ W13.heap.size from Nat.ne_of_lt (zl BKa.out))
  have Nb_m := qa.mk (show gb ≠ W13.heap.size from Nat.ne_of_lt (zl BKb.out))
  have Nn_m := qa.mk (show gn ≠ W13.heap.size from Nat.ne_of_lt (zl BKn.out))
  have hb0 : Below (W13).heap.size W13 _ := (show Below W13.heap.size W13 W14 by rw [hWW]; exact qc (Below.refl _ _) _)
  have di := DI.out.below hb0
  have hb := qj HB.out hb0
  have hk := KeepBut.of_below hb0 g none
  clear hb0
  replace DI := qa.mk di
  replace HB := qa.mk hb
  replace BKa := qa.mk (KeepBut.blk hk BKa.out NEa.out (by simp))
  replace BKb := qa.mk (KeepBut.blk hk BKb.out NEb.out (by simp))
  replace BKn := qa.mk (KeepBut.blk hk BKn.out NEn.out (by simp))
  replace NAn := qa.mk (NAn.out.keep (KeepT.of hk))
  replace NAm := qa.mk (NAm.out.keep (KeepT.of hk))
  clear di hb hk
  clear hWW
  generalize W13.heap.size = gm at BKm NEm GEm Na_m Nb_m Nn_m ⊢
  have cut0 := qa.mk (show 0 ≤ (m.length : Int) from by omega)
  have WW1 := qa.mk (show wrap64 ((m.length : Int) + 1) = (m.length : Int) + 1 by have := TIm.out.1; unfold wrap64; omega)
  have hb0 : Below (W14).heap.size W14 _ := (show Below W14.heap.size W14 W14.drew from below_drew (Below.refl _ _))
  have di := DI.out.below hb0
  have hb := qj HB.out hb0
  have hk := KeepBut.of_below hb0 g none
  clear hb0
  replace DI := qa.mk di
  replace HB := qa.mk hb
  replace BKa := qa.mk (KeepBut.blk hk BKa.out NEa.out (by simp))
  replace BKb := qa.mk (KeepBut.blk hk BKb.out NEb.out (by simp))
  replace BKn := qa.mk (KeepBut.blk hk BKn.out NEn.out (by simp))
  replace BKm := qa.mk (KeepBut.blk hk BKm.out NEm.out (by simp))
  replace NAn := qa.mk (NAn.out.keep (KeepT.of hk))
  replace NAm := qa.mk (NAm.out.keep (KeepT.of hk))
  clear di hb hk
  refine start_ (n := 12) (S := fun w' => w'.cell? ⟨ga, 0, none⟩ = some (.slice Aa a.length ca) ∧ w'.cell? ⟨gb, 0, none⟩ = some (.slice Ab b.length cb) ∧ w'.cell? ⟨gn, 0, none⟩ = some (.slice An n.length cn) ∧ w'.cell? ⟨gm, 0, none⟩ = some (.slice Am m.length cm)) (ds := [11]) #[false, false, false, false, false, false, false, false, false, false, false, false] (by kernel_rfl) rfl rfl ⟨((qi BKa.out 0).trans rfl), ((qi BKb.out 0).trans rfl), ((qi BKn.out 0).trans rfl), ((qi BKm.out 0).trans rfl)⟩ (fun hHeld => ?_); refine k8 mat.tab6 mat.bits6 (fun HT_ HW_ => ?_)
  generalize W14.drew = W15 at DI HB BKa BKb BKn BKm NAn NAm hHeld ⊢
  refine zt (i := 0) (N := (some 30)) (v := ?_) (a' := ?_) #[true, false, false, false, false, false, false, false, false, false, false, false] rfl rfl (zc HT_.out (by kernel_rfl)) (fun _ _ _ h => h) (Or.inl ⟨by rfl, ?_⟩) ?_ ?_
  rotate_left
  ·intro w'
   go_simp
   with_reducible rfl
  rotate_left
  ·simp only [Act.put, List.setIfInBounds_toArray, List.set_cons_zero, List.set_cons_succ, qy, qz]
   rfl
  refine zt (i := 2) (N := (some 32)) (v := ?_) (a' := ?_) #[true, false, true, false, false, false, false, false, false, false, false, false] rfl rfl (zc HT_.out (by kernel_rfl)) (fun _ _ _ h => h) (Or.inl ⟨by rfl, ?_⟩) ?_ ?_
  rotate_left
  ·intro w'
   go_simp
   with_reducible rfl
  rotate_left
  ·simp only [Act.put, List.setIfInBounds_toArray, List.set_cons_zero, List.set_cons_succ, qy, qz]
   rfl
  refine zt (i := 3) (N := (some 33)) (v := ?_) (a' := ?_) #[true, false, true, true, false, false, false, false, false, false, false, false] rfl rfl (zc HT_.out (by kernel_rfl)) (fun _ _ _ h => h) (Or.inl ⟨by rfl, ?_⟩) ?_ ?_
  rotate_left
  ·intro w'
   go_simp
   with_reducible rfl
  rotate_left
  ·simp only [Act.put, List.setIfInBounds_toArray, List.set_cons_zero, List.set_cons_succ, qy, qz]
   rfl
  refine xm (i := 1) (N := (some 31)) (v := ?_) (a' := ?_) #[true, true, true, true, false, false, false, false, false, false, false, false] rfl rfl (zj HT_.out HW_.out (by kernel_rfl)) (fun _ _ _ h => h) (Or.inl ⟨by rfl, ?_⟩) hHeld ?_ ?_
  rotate_left
  ·rintro w' ⟨s0, s1, s2, s3⟩
   go_simp
   with_reducible rfl
  rotate_left
  ·simp only [Act.put, List.setIfInBounds_toArray, List.set_cons_zero, List.set_cons_succ, qy, qz]
   rfl
  refine xm (i := 4) (N := (some 34)) (v := ?_) (a' := ?_) #[true, true, true, true, true, false, false, false, false, false, false, false] rfl rfl (zj HT_.out HW_.out (by kernel_rfl)) (fun _ _ _ h => h) (Or.inl ⟨by rfl, ?_⟩) hHeld ?_ ?_
  rotate_left
  ·rintro w' ⟨s0, s1, s2, s3⟩
   go_simp
   with_reducible rfl
  rotate_left
  ·simp only [Act.put, List.setIfInBounds_toArray, List.set_cons_zero, List.set_cons_succ, qy, qz]
   rfl
  refine zt (i := 5) (N := (some 35)) (v := ?_) (a' := ?_) #[true, true, true, true, true, true, false, false, false, false, false, false] rfl rfl (zc HT_.out (by kernel_rfl)) (fun _ _ _ h => h) (Or.inl ⟨by rfl, ?_⟩) ?_ ?_
  rotate_left
  ·intro w'
   go_simp
   with_reducible rfl
  rotate_left
  ·simp only [Act.put, List.setIfInBounds_toArray, List.set_cons_zero, List.set_cons_succ, qy, qz]
   rfl
  refine zt (i := 6) (N := (some 36)) (v := ?_) (a' := ?_) #[true, true, true, true, true, true, true, false, false, false, false, false] rfl rfl (zc HT_.out (by kernel_rfl)) (fun _ _ _ h => h) (Or.inl ⟨by rfl, ?_⟩) ?_ ?_
  rotate_left
  ·intro w'
   go_simp
   with_reducible rfl
  rotate_left
  ·simp only [Act.put, List.setIfInBounds_toArray, List.set_cons_zero, List.set_cons_succ, qy, qz]
   rfl
  refine join_ (σ := Nat × Nat) 1 #[true, true, true, true, true, true, true, true, true, true, true, false] (fun s_ => [(37, .int .i64 (s_.1 : Int)), (38, .slice Am s_.1 cm), (39, .agg #[.slice Am s_.1 cm]), (10, .pointer (some ⟨s_.2, 0, none⟩))]) (fun s_ w' => (s_.1 ≤ m.length ∧ s_.2 ≠ g ∧ w'.heap[s_.2]? = some (.cells #[.slice none 0 0] 24 (0, 0)) ∧ DK w w' g ∧ Below w.heap.size w w' ∧ w.heap.size ≤ s_.2 ∧ ga ≠ s_.2 ∧ gb ≠ s_.2 ∧ gn ≠ s_.2 ∧ gm ≠ s_.2) ∧ w'.heap[ga]? = some (.cells #[.slice Aa a.length ca] 24 (0, 0)) ∧ w'.heap[gb]? = some (.cells #[.slice Ab b.length cb] 24 (0, 0)) ∧ w'.heap[gn]? = some (.cells #[.slice An n.length cn] 24 (0, 0)) ∧ w'.heap[gm]? = some (.cells #[.slice Am m.length cm] 24 (0, 0)) ∧ NameAt g w' An cn n ∧ NameAt g w' Am cm m) ?_ ?_
  rotate_left
  ·intro hCont
   refine two_ (i := 7) (j := 10) (Ni := (some 37)) (Nj := (some 10)) #[true, true, true, true, true, true, true, true, false, false, false, false] #[true, true, true, true, true, true, true, false, false, false, true, false] rfl rfl rfl rfl (two_of HT_.out (by kernel_rfl)) (by decide) (by decide) (fun K hK => ?_) (fun K hK => ?_)
   ·skip
    refine k7 Tryd.func14 (by kernel_rfl) rfl #[.pointer (some ⟨g, 0, none⟩), .int .i64 (wrap64 ((m.length : Int) + 1))] (by rfl) rfl rfl (by (try simp only [List.map_toArray, List.map_cons, List.map_nil]); first | done | rfl | (simp only [List.length_drop, List.length_take]; rfl)) ?_
    have hcl := next_weak g ((m.length : Int) + 1) (by have := cut0.out; omega) (by have := TIm.out.1; omega) w _ DI.out HB.out
    rw [show #[Value.pointer (some ⟨g, 0, none⟩), .int .i64 ((m.length : Int) + 1)] = #[Value.pointer (some ⟨g, 0, none⟩), .int .i64 (wrap64 ((m.length : Int) + 1))] from by rw [WW1.out]] at hcl
    refine hcl.mono ?_
    clear hcl
    rintro e_ W56 ⟨j0, rfl, hj0, hj1, di, hb, hk⟩
    refine ⟨_, rfl, ?_⟩
    replace DI := qa.mk di
    replace HB := qa.mk hb
    replace BKa := qa.mk (KeepBut.blk hk BKa.out NEa.out (by simp))
    replace BKb := qa.mk (KeepBut.blk hk BKb.out NEb.out (by simp))
    replace BKn := qa.mk (KeepBut.blk hk BKn.out NEn.out (by simp))
    replace BKm := qa.mk (KeepBut.blk hk BKm.out NEm.out (by simp))
    replace NAn := qa.mk (NAn.out.keep (KeepT.of hk))
    replace NAm := qa.mk (NAm.out.keep (KeepT.of hk))
    clear di hb hk
    obtain ⟨j, rfl⟩ := Int.eq_ofNat_of_zero_le hj0
    have hjl : j ≤ m.length := by omega
    have HJ := qa.mk hjl
    have q0 : (0 ≤ (j : Int)) = True := eq_true (by omega)
    have q1 : ((j : Int) ≤ (cm : Int)) = True := eq_true (by have := NAm.out.cap; omega)
    clear hj0 hj1 hjl
    refine hK.out _ _ ⟨((qi BKa.out 0).trans rfl), ((qi BKb.out 0).trans rfl), ((qi BKn.out 0).trans rfl), ((qi BKm.out 0).trans rfl)⟩ (fun hHeld => ?_)
    clear hK K
    refine kw (a' := ?_) ?_ ?_
    rotate_left
    ·show Act.put _ (some 37) _ = _
     simp only [Act.put, List.setIfInBounds_toArray, List.set_cons_zero, List.set_cons_succ, qy, qz]
     rfl
    refine zt (i := 8) (N := (some 38)) (v := ?_) (a' := ?_) #[true, true, true, true, true, true, true, true, true, false, false, false] rfl rfl (zc HT_.out (by kernel_rfl)) (fun _ _ _ h => h) (Or.inl ⟨by rfl, ?_⟩) ?_ ?_
    rotate_left
    ·intro w'
     go_simp
     with_reducible rfl
    rotate_left
    ·simp only [Act.put, List.setIfInBounds_toArray, List.set_cons_zero, List.set_cons_succ, qy, qz]
     rfl
    refine zt (i := 9) (N := (some 39)) (v := ?_) (a' := ?_) #[true, true, true, true, true, true, true, true, true, true, false, false] rfl rfl (zc HT_.out (by kernel_rfl)) (fun _ _ _ h => h) (Or.inl ⟨by rfl, ?_⟩) ?_ ?_
    rotate_left
    ·intro w'
     go_simp
     with_reducible rfl
    rotate_left
    ·simp only [Act.put, List.setIfInBounds_toArray, List.set_cons_zero, List.set_cons_succ, qy, qz]
     rfl
    refine one_ (i := 10) (N := (some 10)) #[true, true, true, true, true, true, true, true, true, true, true, false] rfl rfl (kj HT_.out (by kernel_rfl)) (by decide) (fun K hK => ?_)
    refine value_ (w1 := ?_) (v := ?_) (by rfl) rfl ?_ ?_
    rotate_left 2
    ·go_simp
     constructor
     ·rfl
     ·rfl
    obtain ⟨W57, hWW⟩ : ∃ W_, W_ = W56.alloc (Obj.cells #[.slice none 0 0] 24) := ⟨_, rfl⟩
    rw [← hWW]
    have BKo0 := qa.mk (show W57.heap[W56.heap.size]? = some (.cells #[.slice none 0 0] 24 (0, 0)) by rw [hWW]; exact heap_alloc_new _ _)
    have NEo0 := qa.mk (show W56.heap.size ≠ g from Nat.ne_of_gt DI.out.lt)
    have GEo0 := qa.mk (show w.heap.size ≤ W56.heap.size from HB.out.size)
    have Na_o0 := qa.mk (show ga ≠ W56.heap.size from Nat.ne_of_lt (zl BKa.out))
    have Nb_o0 := qa.mk (show gb ≠ W56.heap.size from Nat.ne_of_lt (zl BKb.out))
    have Nn_o0 := qa.mk (show gn ≠ W56.heap.size from Nat.ne_of_lt (zl BKn.out))
    have Nm_o0 := qa.mk (show gm ≠ W56.heap.size from Nat.ne_of_lt (zl BKm.out))
    have hb0 : Below (W56).heap.size W56 _ := (show Below W56.heap.size W56 W57 by rw [hWW]; exact qc (Below.refl _ _) _)
    have di := DI.out.below hb0
    have hb := qj HB.out hb0
    have hk := KeepBut.of_below hb0 g none
    clear hb0
    replace DI := qa.mk di
    replace HB := qa.mk hb
    replace BKa := qa.mk (KeepBut.blk hk BKa.out NEa.out (by simp))
    replace BKb := qa.mk (KeepBut.blk hk BKb.out NEb.out (by simp))
    replace BKn := qa.mk (KeepBut.blk hk BKn.out NEn.out (by simp))
    replace BKm := qa.mk (KeepBut.blk hk BKm.out NEm.out (by simp))
    replace NAn := qa.mk (NAn.out.keep (KeepT.of hk))
    replace NAm := qa.mk (NAm.out.keep (KeepT.of hk))
    clear di hb hk
    clear hWW
    generalize W56.heap.size = go0 at BKo0 NEo0 GEo0 Na_o0 Nb_o0 Nn_o0 Nm_o0 ⊢
    refine hK.out _ _ ⟨((qi BKa.out 0).trans rfl), ((qi BKb.out 0).trans rfl), ((qi BKn.out 0).trans rfl), ((qi BKm.out 0).trans rfl)⟩ (fun hHeld => ?_)
    clear hK K
    refine kw (a' := ?_) ?_ ?_
    rotate_left
    ·show Act.put _ (some 10) _ = _
     simp only [Act.put, List.setIfInBounds_toArray, List.set_cons_zero, List.set_cons_succ, qy, qz]
     rfl
    exact kw (by simp only [putAll, Act.put, List.setIfInBounds_toArray, List.set_cons_zero, List.set_cons_succ]) (hCont (j, go0) _ ⟨⟨HJ.out, NEo0.out, BKo0.out, DI.out, HB.out, GEo0.out, Na_o0.out, Nb_o0.out, Nn_o0.out, Nm_o0.out⟩, BKa.out, BKb.out, BKn.out, BKm.out, NAn.out, NAm.out⟩)
   ·skip
    refine value_ (w1 := ?_) (v := ?_) (by rfl) rfl ?_ ?_
    rotate_left 2
    ·go_simp
     constructor
     ·rfl
     ·rfl
    obtain ⟨W56, hWW⟩ : ∃ W_, W_ = W15.alloc (Obj.cells #[.slice none 0 0] 24) := ⟨_, rfl⟩
    rw [← hWW]
    have BKo0 := qa.mk (show W56.heap[W15.heap.size]? = some (.cells #[.slice none 0 0] 24 (0, 0)) by rw [hWW]; exact heap_alloc_new _ _)
    have NEo0 := qa.mk (show W15.heap.size ≠ g from Nat.ne_of_gt DI.out.lt)
    have GEo0 := qa.mk (show w.heap.size ≤ W15.heap.size from HB.out.size)
    have Na_o0 := qa.mk (show ga ≠ W15.heap.size from Nat.ne_of_lt (zl BKa.out))
    have Nb_o0 := qa.mk (show gb ≠ W15.heap.size from Nat.ne_of_lt (zl BKb.out))
    have Nn_o0 := qa.mk (show gn ≠ W15.heap.size from Nat.ne_of_lt (zl BKn.out))
    have Nm_o0 := qa.mk (show gm ≠ W15.heap.size from Nat.ne_of_lt (zl BKm.out))
    have hb0 : Below (W15).heap.size W15 _ := (show Below W15.heap.size W15 W56 by rw [hWW]; exact qc (Below.refl _ _) _)
    have di := DI.out.below hb0
    have hb := qj HB.out hb0
    have hk := KeepBut.of_below hb0 g none
    clear hb0
    replace DI := qa.mk di
    replace HB := qa.mk hb
    replace BKa := qa.mk (KeepBut.blk hk BKa.out NEa.out (by simp))
    replace BKb := qa.mk (KeepBut.blk hk BKb.out NEb.out (by simp))
    replace BKn := qa.mk (KeepBut.blk hk BKn.out NEn.out (by simp))
    replace BKm := qa.mk (KeepBut.blk hk BKm.out NEm.out (by simp))
    replace NAn := qa.mk (NAn.out.keep (KeepT.of hk))
    replace NAm := qa.mk (NAm.out.keep (KeepT.of hk))
    clear di hb hk
    clear hWW
    generalize W15.heap.size = go0 at BKo0 NEo0 GEo0 Na_o0 Nb_o0 Nn_o0 Nm_o0 ⊢
    refine hK.out _ _ ⟨((qi BKa.out 0).trans rfl), ((qi BKb.out 0).trans rfl), ((qi BKn.out 0).trans rfl), ((qi BKm.out 0).trans rfl)⟩ (fun hHeld => ?_)
    clear hK K
    refine kw (a' := ?_) ?_ ?_
    rotate_left
    ·show Act.put _ (some 10) _ = _
     simp only [Act.put, List.setIfInBounds_toArray, List.set_cons_zero, List.set_cons_succ, qy, qz]
     rfl
    refine one_ (i := 7) (N := (some 37)) #[true, true, true, true, true, true, true, true, false, false, true, false] rfl rfl (kj HT_.out (by kernel_rfl)) (by decide) (fun K hK => ?_)
    refine k7 Tryd.func14 (by kernel_rfl) rfl #[.pointer (some ⟨g, 0, none⟩), .int .i64 (wrap64 ((m.length : Int) + 1))] (by rfl) rfl rfl (by (try simp only [List.map_toArray, List.map_cons, List.map_nil]); first | done | rfl | (simp only [List.length_drop, List.length_take]; rfl)) ?_
    have hcl := next_weak g ((m.length : Int) + 1) (by have := cut0.out; omega) (by have := TIm.out.1; omega) w _ DI.out HB.out
    rw [show #[Value.pointer (some ⟨g, 0, none⟩), .int .i64 ((m.length : Int) + 1)] = #[Value.pointer (some ⟨g, 0, none⟩), .int .i64 (wrap64 ((m.length : Int) + 1))] from by rw [WW1.out]] at hcl
    refine hcl.mono ?_
    clear hcl
    rintro e_ W57 ⟨j0, rfl, hj0, hj1, di, hb, hk⟩
    refine ⟨_, rfl, ?_⟩
    replace DI := qa.mk di
    replace HB := qa.mk hb
    replace BKa := qa.mk (KeepBut.blk hk BKa.out NEa.out (by simp))
    replace BKb := qa.mk (KeepBut.blk hk BKb.out NEb.out (by simp))
    replace BKn := qa.mk (KeepBut.blk hk BKn.out NEn.out (by simp))
    replace BKm := qa.mk (KeepBut.blk hk BKm.out NEm.out (by simp))
    replace BKo0 := qa.mk (KeepBut.blk hk BKo0.out NEo0.out (by simp))
    replace NAn := qa.mk (NAn.out.keep (KeepT.of hk))
    replace NAm := qa.mk (NAm.out.keep (KeepT.of hk))
    clear di hb hk
    obtain ⟨j, rfl⟩ := Int.eq_ofNat_of_zero_le hj0
    have hjl : j ≤ m.length := by omega
    have HJ := qa.mk hjl
    have q0 : (0 ≤ (j : Int)) = True := eq_true (by omega)
    have q1 : ((j : Int) ≤ (cm : Int)) = True := eq_true (by have := NAm.out.cap; omega)
    clear hj0 hj1 hjl
    refine hK.out _ _ ⟨((qi BKa.out 0).trans rfl), ((qi BKb.out 0).trans rfl), ((qi BKn.out 0).trans rfl), ((qi BKm.out 0).trans rfl)⟩ (fun hHeld => ?_)
    clear hK K
    refine kw (a' := ?_) ?_ ?_
    rotate_left
    ·show Act.put _ (some 37) _ = _
     simp only [Act.put, List.setIfInBounds_toArray, List.set_cons_zero, List.set_cons_succ, qy, qz]
     rfl
    refine zt (i := 8) (N := (some 38)) (v := ?_) (a' := ?_) #[true, true, true, true, true, true, true, true, true, false, true, false] rfl rfl (zc HT_.out (by kernel_rfl)) (fun _ _ _ h => h) (Or.inl ⟨by rfl, ?_⟩) ?_ ?_
    rotate_left
    ·intro w'
     go_simp
     with_reducible rfl
    rotate_left
    ·simp only [Act.put, List.setIfInBounds_toArray, List.set_cons_zero, List.set_cons_succ, qy, qz]
     rfl
    refine zt (i := 9) (N := (some 39)) (v := ?_) (a' := ?_) #[true, true, true, true, true, true, true, true, true, true, true, false] rfl rfl (zc HT_.out (by kernel_rfl)) (fun _ _ _ h => h) (Or.inl ⟨by rfl, ?_⟩) ?_ ?_
    rotate_left
    ·intro w'
     go_simp
     with_reducible rfl
    rotate_left
    ·simp only [Act.put, List.setIfInBounds_toArray, List.set_cons_zero, List.set_cons_succ, qy, qz]
     rfl
    exact kw (by simp only [putAll, Act.put, List.setIfInBounds_toArray, List.set_cons_zero, List.set_cons_succ]) (hCont (j, go0) _ ⟨⟨HJ.out, NEo0.out, BKo0.out, DI.out, HB.out, GEo0.out, Na_o0.out, Nb_o0.out, Nn_o0.out, Nm_o0.out⟩, BKa.out, BKb.out, BKn.out, BKm.out, NAn.out, NAm.out⟩)
  rintro ⟨jo, go⟩ W106 ⟨⟨hj, hne, hbk, di, hb, hge, hnq_a, hnq_b, hnq_n, hnq_m⟩, h_BKa, h_BKb, h_BKn, h_BKm, h_NAn, h_NAm⟩
  dsimp only at hj hne hbk hge hnq_a hnq_b hnq_n hnq_m ⊢
  replace BKa := qa.mk h_BKa
  replace BKb := qa.mk h_BKb
  replace BKn := qa.mk h_BKn
  replace BKm := qa.mk h_BKm
  replace NAn := qa.mk h_NAn
  replace NAm := qa.mk h_NAm
  replace DI := qa.mk di
  replace HB := qa.mk hb
  have NEo := qa.mk hne
  obtain ⟨o, ho_⟩ : ∃ o, o = m.take jo := ⟨_, rfl⟩
  have ol : o.length = jo := by rw [ho_, List.length_take]; omega
  subst ol
  have NAo := qa.mk (show NameAt g W106 Am cm o by rw [ho_]; exact NAm.out.take _ hj)
  have TIo := qa.mk (show Tiny (100 + 1) o by rw [ho_]; exact TIm.out.take _)
  have FIo := qa.mk (TIo.out.fine (by omega))
  have HWO := qa.mk (show withinS n o = true by rw [ho_]; exact withinS_trans (SpN_within SPm.out) (within_take m _))
  clear hj hne ho_ di hb WW1 cut0 h_BKa h_BKb h_BKn h_BKm h_NAn h_NAm
  have hcz : W106.cell? ⟨go, 0, none⟩ = some (.slice none 0 0) := (qi hbk 0).trans rfl
  have hfz := qk hbk 0
  refine kw (a' := ?_) ?_ ?_
  rotate_left
  ·simp only [putAll, Act.put, List.setIfInBounds_toArray, List.set_cons_zero, List.set_cons_succ]
   rfl
  refine last_ (i := 11) (N := none) #[true, true, true, true, true, true, true, true, true, true, true, true] rfl rfl (kj HT_.out (by kernel_rfl)) (by decide) (fun K hK => ?_)
  refine skip_ (by rfl) rfl (w1 := W106.setCell ⟨go, 0, none⟩ (.slice Am o.length cm)) ?_ ?_
  ·go_simp
  refine hK.out _ _ ?_
  clear hK K
  refine done_ (done_of HT_.out (by kernel_rfl)) ?_
  obtain ⟨W107, hWW⟩ : ∃ W_, W_ = W106.setCell ⟨go, 0, none⟩ (.slice Am o.length cm) := ⟨_, rfl⟩
  rw [← hWW]
  have hB2 := qe (j := 0) (v := .slice Am o.length cm) HB.out hge
  rw [← hWW] at hB2
  have hD2 := DI.out.far (p := ⟨go, 0, none⟩) (by show g ≠ go; exact fun e => NEo.out e.symm) (.slice Am o.length cm)
  rw [← hWW] at hD2
  have hT2 := KeepT.set (g := g) hbk 0 (.slice Am o.length cm)
  rw [← hWW] at hT2
  have hbk2 := zw hbk 0 (.slice Am o.length cm) rfl
  rw [← hWW] at hbk2
  have h_BK := xd BKa.out (p := ⟨go, 0, none⟩) (by show ga ≠ go; exact hnq_a) (.slice Am o.length cm)
  rw [← hWW] at h_BK
  replace BKa := qa.mk h_BK
  clear h_BK
  have h_BK := xd BKb.out (p := ⟨go, 0, none⟩) (by show gb ≠ go; exact hnq_b) (.slice Am o.length cm)
  rw [← hWW] at h_BK
  replace BKb := qa.mk h_BK
  clear h_BK
  have h_BK := xd BKn.out (p := ⟨go, 0, none⟩) (by show gn ≠ go; exact hnq_n) (.slice Am o.length cm)
  rw [← hWW] at h_BK
  replace BKn := qa.mk h_BK
  clear h_BK
  have h_BK := xd BKm.out (p := ⟨go, 0, none⟩) (by show gm ≠ go; exact hnq_m) (.slice Am o.length cm)
  rw [← hWW] at h_BK
  replace BKm := qa.mk h_BK
  clear h_BK
  replace NAn := qa.mk (NAn.out.keep hT2)
  replace NAm := qa.mk (NAm.out.keep hT2)
  replace NAo := qa.mk (NAo.out.keep hT2)
  replace DI := qa.mk hD2
  replace HB := qa.mk hB2
  have BKo := qa.mk hbk2
  clear hWW hB2 hD2 hT2 hbk hbk2 hcz hfz hge hnq_a hnq_b hnq_n hnq_m
  go_upto_region 8 with ((with_reducible refine at_c 12 ?_); go_at_call 12; refine (nameT w _ DI.out HB.out).mono ?_; rintro e W108 ⟨Ap, cp, p, rfl, ti, rm, na, di, hb, hk⟩; replace DI := qa.mk di; replace HB := qa.mk hb; replace BKa := qa.mk (KeepBut.blk hk BKa.out NEa.out (by simp)); replace BKb := qa.mk (KeepBut.blk hk BKb.out NEb.out (by simp)); replace BKn := qa.mk (KeepBut.blk hk BKn.out NEn.out (by simp)); replace BKm := qa.mk (KeepBut.blk hk BKm.out NEm.out (by simp)); replace BKo := qa.mk (KeepBut.blk hk BKo.out NEo.out (by simp)); replace NAn := qa.mk (NAn.out.keep (KeepT.of hk)); replace NAm := qa.mk (NAm.out.keep (KeepT.of hk)); replace NAo := qa.mk (NAo.out.keep (KeepT.of hk)); clear di hb hk; have NAp := qa.mk na; have TIp := qa.mk ti; have FIp := qa.mk (ti.fine (by omega)); clear na ti rm)
  obtain ⟨W109, hWW⟩ : ∃ W_, W_ = W108.alloc (Obj.cells #[.slice Ap p.length cp] 24) := ⟨_, rfl⟩
  rw [← hWW]
  have BKp := qa.mk (show W109.heap[W108.heap.size]? = some (.cells #[.slice Ap p.length cp] 24 (0, 0)) by rw [hWW]; exact heap_alloc_new _ _)
  have NEp := qa.mk (show W108.heap.size ≠ g from Nat.ne_of_gt DI.out.lt)
  have GEp := qa.mk (show w.heap.size ≤ W108.heap.size from HB.out.size)
  have Na_p := qa.mk (show ga ≠ W108.heap.size from Nat.ne_of_lt (zl BKa.out))
  have Nb_p := qa.mk (show gb ≠ W108.heap.size from Nat.ne_of_lt (zl BKb.out))
  have Nn_p := qa.mk (show gn ≠ W108.heap.size from Nat.ne_of_lt (zl BKn.out))
  have Nm_p := qa.mk (show gm ≠ W108.heap.size from Nat.ne_of_lt (zl BKm.out))
  have No_p := qa.mk (show go ≠ W108.heap.size from Nat.ne_of_lt (zl BKo.out))
  have hb0 : Below (W108).heap.size W108 _ := (show Below W108.heap.size W108 W109 by rw [hWW]; exact qc (Below.refl _ _) _)
  have di := DI.out.below hb0
  have hb := qj HB.out hb0
  have hk := KeepBut.of_below hb0 g none
  clear hb0
  replace DI := qa.mk di
  replace HB := qa.mk hb
  replace BKa := qa.mk (KeepBut.blk hk BKa.out NEa.out (by simp))
  replace BKb := qa.mk (KeepBut.blk hk BKb.out NEb.out (by simp))
  replace BKn := qa.mk (KeepBut.blk hk BKn.out NEn.out (by simp))
  replace BKm := qa.mk (KeepBut.blk hk BKm.out NEm.out (by simp))
  replace BKo := qa.mk (KeepBut.blk hk BKo.out NEo.out (by simp))
  replace NAn := qa.mk (NAn.out.keep (KeepT.of hk))
  replace NAm := qa.mk (NAm.out.keep (KeepT.of hk))
  replace NAo := qa.mk (NAo.out.keep (KeepT.of hk))
  replace NAp := qa.mk (NAp.out.keep (KeepT.of hk))
  clear di hb hk
  clear hWW
  generalize W108.heap.size = gp at BKp NEp GEp Na_p Nb_p Nn_p Nm_p No_p ⊢
  have za : W109.cell? ⟨ga, 0, none⟩ = some (.slice Aa a.length ca) := (qi BKa.out 0).trans rfl
  have zb : W109.cell? ⟨gb, 0, none⟩ = some (.slice Ab b.length cb) := (qi BKb.out 0).trans rfl
  have zn : W109.cell? ⟨gn, 0, none⟩ = some (.slice An n.length cn) := (qi BKn.out 0).trans rfl
  have zm : W109.cell? ⟨gm, 0, none⟩ = some (.slice Am m.length cm) := (qi BKm.out 0).trans rfl
  have zo : W109.cell? ⟨go, 0, none⟩ = some (.slice Am o.length cm) := (qi BKo.out 0).trans rfl
  have zp : W109.cell? ⟨gp, 0, none⟩ = some (.slice Ap p.length cp) := (qi BKp.out 0).trans rfl
  go_wp2
  obtain ⟨W8, hWW⟩ : ∃ W_, W_ = W109.alloc (Obj.cells #[Value.slice Aa a.length ca, Value.slice Ab b.length cb, Value.slice An n.length cn, Value.slice Am m.length cm, Value.slice An n.length cn, Value.slice Am o.length cm, Value.slice Am o.length cm, Value.slice An n.length cn, Value.slice An n.length cn, Value.slice Ap p.length cp, Value.slice Aa a.length ca, Value.slice An n.length cn] 41) := ⟨_, rfl⟩
  rw [← hWW]
  have BL := qa.mk (show W8.heap[W109.heap.size]? = some (.cells #[Value.slice Aa a.length ca, Value.slice Ab b.length cb, Value.slice An n.length cn, Value.slice Am m.length cm, Value.slice An n.length cn, Value.slice Am o.length cm, Value.slice Am o.length cm, Value.slice An n.length cn, Value.slice An n.length cn, Value.slice Ap p.length cp, Value.slice Aa a.length ca, Value.slice An n.length cn] 41 (0, 0)) by rw [hWW]; exact heap_alloc_new _ _)
  have hb0 : Below (W109).heap.size W109 _ := (show Below W109.heap.size W109 W8 by rw [hWW]; exact qc (Below.refl _ _) _)
  have di := DI.out.below hb0
  have hb := qj HB.out hb0
  have hk := KeepBut.of_below hb0 g none
  clear hb0
  replace DI := qa.mk di
  replace HB := qa.mk hb
  replace BKa := qa.mk (KeepBut.blk hk BKa.out NEa.out (by simp))
  replace BKb := qa.mk (KeepBut.blk hk BKb.out NEb.out (by simp))
  replace BKn := qa.mk (KeepBut.blk hk BKn.out NEn.out (by simp))
  replace BKm := qa.mk (KeepBut.blk hk BKm.out NEm.out (by simp))
  replace BKo := qa.mk (KeepBut.blk hk BKo.out NEo.out (by simp))
  replace BKp := qa.mk (KeepBut.blk hk BKp.out NEp.out (by simp))
  replace NAn := qa.mk (NAn.out.keep (KeepT.of hk))
  replace NAm := qa.mk (NAm.out.keep (KeepT.of hk))
  replace NAo := qa.mk (NAo.out.keep (KeepT.of hk))
  replace NAp := qa.mk (NAp.out.keep (KeepT.of hk))
  clear di hb hk
  clear hWW za zb zn zm zo zp
  generalize W109.heap.size = gL at BL ⊢
  go_loopg [62] 6 (fun kq v62 w' => ∃ i : Int, v62 = .int .i64 i ∧ qa (i = 6 - kq) ∧ qa (kq ≤ 6) ∧ qa (Below W8.heap.size W8 w'))
  case atStart => exact ⟨0, rfl, ⟨by omega⟩, ⟨Nat.le_refl _⟩, ⟨Below.refl _ _⟩⟩
  case round =>
   obtain ⟨i, rfl, hi, hk6, HB8⟩ := hrel
   have BLr := qa.mk (qt BL.out HB8.out)
   match gk, hi, hk6 with
   | 0, hi, hk6 =>
    obtain rfl : i = 6 := by have := hi.out; omega
    clear hi hk6
    go_wp2_with (first | ((with_reducible refine at_c 9 ?_); go_at_call 9; refine (awakeT _ (LibHeld.below HG.out (qj HU.out (qj HB.out HB8.out)))).mono ?_; rintro e_ Wx ⟨rfl, hq⟩; replace HB8 := qa.mk (qj HB8.out hq); clear hq; have znWx : Wx.cell? ⟨gn, 0, none⟩ = some (.slice An n.length cn) := (qi (qt BKn.out HB8.out) 0).trans rfl; have zmWx : Wx.cell? ⟨gm, 0, none⟩ = some (.slice Am m.length cm) := (qi (qt BKm.out HB8.out) 0).trans rfl) | ((with_reducible refine at_c 15 ?_); go_at_call 15; refine (matchT2 _ (NAn.out.keep (KeepT.of (KeepBut.of_below HB8.out g none))).now NAn.out.cap (NAm.out.keep (KeepT.of (KeepBut.of_below HB8.out g none))).now NAm.out.cap FIn.out FIm.out (SpN_match SPm.out)).mono ?_; rintro e_ Wy ⟨rfl, hq⟩; replace HB8 := qa.mk (qj HB8.out hq); clear hq; have znWy : Wy.cell? ⟨gn, 0, none⟩ = some (.slice An n.length cn) := (qi (qt BKn.out HB8.out) 0).trans rfl; have zoWy : Wy.cell? ⟨go, 0, none⟩ = some (.slice Am o.length cm) := (qi (qt BKo.out HB8.out) 0).trans rfl) | ((with_reducible refine at_c 17 ?_); go_at_call 17; refine (withinT2 _ (NAn.out.keep (KeepT.of (KeepBut.of_below HB8.out g none))).now NAn.out.cap (NAo.out.keep (KeepT.of (KeepBut.of_below HB8.out g none))).now NAo.out.cap FIn.out FIo.out HWO.out).mono ?_; rintro e_ Wz ⟨rfl, hq⟩; replace HB8 := qa.mk (qj HB8.out hq); clear hq))
    go_ret
    exact ⟨rfl, qj HU.out (qj HB.out HB8.out)⟩
   | 6, hi, hk6 =>
    obtain rfl : i = 0 := by have := hi.out; omega
    clear hi hk6
    have y0_ : wr.cell? ⟨gL, 0, none⟩ = some (.slice Aa a.length ca) := (qi BLr.out 0).trans rfl
    have y1_ : wr.cell? ⟨gL, 1, none⟩ = some (.slice Ab b.length cb) := (qi BLr.out 1).trans rfl
    go_upto_region 11 with (fail)
    obtain ⟨gP, hgP⟩ : ∃ g_, g_ = wr.heap.size := ⟨_, rfl⟩
    obtain ⟨W9, hWW⟩ : ∃ W_, W_ = wr.alloc (Obj.cells #[Value.slice Aa a.length ca, Value.slice Ab b.length cb] 41) := ⟨_, rfl⟩
    rw [← hWW, ← hgP]
    replace HB8 := qa.mk (show Below W8.heap.size W8 W9 by rw [hWW]; exact qc HB8.out _)
    have BP := qa.mk (show W9.heap[gP]? = some (.cells #[.slice Aa a.length ca, .slice Ab b.length cb] 41 (0, 0)) by rw [hWW, hgP]; exact heap_alloc_new _ _)
    clear hWW hgP y0_ y1_
    obtain ⟨r1, hr1⟩ : ∃ r_, matchS a b = r_ := ⟨_, rfl⟩
    obtain ⟨r2, hr2⟩ : ∃ r_, withinS a b = r_ := ⟨_, rfl⟩
    have R1 := qa.mk hr1
    have R2 := qa.mk hr2
    clear hr1 hr2
    replace HB8 := qa.mk (qd HB8.out)
    replace BP := qa.mk (qh BP.out)
    refine start_ (n := 24) (S := fun w' => w'.cell? ⟨gP, 0, none⟩ = some (.slice Aa a.length ca) ∧ w'.cell? ⟨gP, 1, none⟩ = some (.slice Ab b.length cb)) (ds := []) #[false, false, false, false, false, false, false, false, false, false, false, false, false, false, false, false, false, false, false, false, false, false, false, false] (by kernel_rfl) rfl rfl ⟨(qi BP.out 0).trans rfl, (qi BP.out 1).trans rfl⟩ (fun hHeld => ?_); refine k8 mat.tab11 mat.bits11 (fun HT_ HW_ => ?_)
    generalize W9.drew = w20 at BP HB8 hHeld ⊢
    refine zt (i := 0) (N := (some 66)) (v := ?_) (a' := ?_) #[true, false, false, false, false, false, false, false, false, false, false, false, false, false, false, false, false, false, false, false, false, false, false, false] rfl rfl (zc HT_.out (by kernel_rfl)) (fun _ _ _ h => h) (Or.inl ⟨by rfl, ?_⟩) ?_ ?_
    rotate_left
    ·intro w'
     go_simp
     with_reducible rfl
    rotate_left
    ·simp only [Act.put, List.setIfInBounds_toArray, List.set_cons_zero, List.set_cons_succ, qy, qz]
     rfl
    refine zt (i := 2) (N := (some 68)) (v := ?_) (a' := ?_) #[true, false, true, false, false, false, false, false, false, false, false, false, false, false, false, false, false, false, false, false, false, false, false, false] rfl rfl (zc HT_.out (by kernel_rfl)) (fun _ _ _ h => h) (Or.inl ⟨by rfl, ?_⟩) ?_ ?_
    rotate_left
    ·intro w'
     go_simp
     with_reducible rfl
    rotate_left
    ·simp only [Act.put, List.setIfInBounds_toArray, List.set_cons_zero, List.set_cons_succ, qy, qz]
     rfl
    refine zt (i := 5) (N := (some 71)) (v := ?_) (a' := ?_) #[true, false, true, false, false, true, false, false, false, false, false, false, false, false, false, false, false, false, false, false, false, false, false, false] rfl rfl (zc HT_.out (by kernel_rfl)) (fun _ _ _ h => h) (Or.inl ⟨by rfl, ?_⟩) ?_ ?_
    rotate_left
    ·intro w'
     go_simp
     with_reducible rfl
    rotate_left
    ·simp only [Act.put, List.setIfInBounds_toArray, List.set_cons_zero, List.set_cons_succ, qy, qz]
     rfl
    refine zt (i := 7) (N := (some 73)) (v := ?_) (a' := ?_) #[true, false, true, false, false, true, false, true, false, false, false, false, false, false, false, false, false, false, false, false, false, false, false, false] rfl rfl (zc HT_.out (by kernel_rfl)) (fun _ _ _ h => h) (Or.inl ⟨by rfl, ?_⟩) ?_ ?_
    rotate_left
    ·intro w'
     go_simp
     with_reducible rfl
    rotate_left
    ·simp only [Act.put, List.setIfInBounds_toArray, List.set_cons_zero, List.set_cons_succ, qy, qz]
     rfl
    refine xm (i := 1) (N := (some 67)) (v := ?_) (a' := ?_) #[true, true, true, false, false, true, false, true, false, false, false, false, false, false, false, false, false, false, false, false, false, false, false, false] rfl rfl (zj HT_.out HW_.out (by kernel_rfl)) (fun _ _ _ h => h) (Or.inl ⟨by rfl, ?_⟩) hHeld ?_ ?_
    rotate_left
    ·rintro w' ⟨s0, s1⟩
     go_simp
     with_reducible rfl
    rotate_left
    ·simp only [Act.put, List.setIfInBounds_toArray, List.set_cons_zero, List.set_cons_succ, qy, qz]
     rfl
    refine xm (i := 3) (N := (some 69)) (v := ?_) (a' := ?_) #[true, true, true, true, false, true, false, true, false, false, false, false, false, false, false, false, false, false, false, false, false, false, false, false] rfl rfl (zj HT_.out HW_.out (by kernel_rfl)) (fun _ _ _ h => h) (Or.inl ⟨by rfl, ?_⟩) hHeld ?_ ?_
    rotate_left
    ·rintro w' ⟨s0, s1⟩
     go_simp
     with_reducible rfl
    rotate_left
    ·simp only [Act.put, List.setIfInBounds_toArray, List.set_cons_zero, List.set_cons_succ, qy, qz]
     rfl
    refine xm (i := 6) (N := (some 72)) (v := ?_) (a' := ?_) #[true, true, true, true, false, true, true, true, false, false, false, false, false, false, false, false, false, false, false, false, false, false, false, false] rfl rfl (zj HT_.out HW_.out (by kernel_rfl)) (fun _ _ _ h => h) (Or.inl ⟨by rfl, ?_⟩) hHeld ?_ ?_
    rotate_left
    ·rintro w' ⟨s0, s1⟩
     go_simp
     with_reducible rfl
    rotate_left
    ·simp only [Act.put, List.setIfInBounds_toArray, List.set_cons_zero, List.set_cons_succ, qy, qz]
     rfl
    refine xm (i := 8) (N := (some 74)) (v := ?_) (a' := ?_) #[true, true, true, true, false, true, true, true, true, false, false, false, false, false, false, false, false, false, false, false, false, false, false, false] rfl rfl (zj HT_.out HW_.out (by kernel_rfl)) (fun _ _ _ h => h) (Or.inl ⟨by rfl, ?_⟩) hHeld ?_ ?_
    rotate_left
    ·rintro w' ⟨s0, s1⟩
     go_simp
     with_reducible rfl
    rotate_left
    ·simp only [Act.put, List.setIfInBounds_toArray, List.set_cons_zero, List.set_cons_succ, qy, qz]
     rfl
    refine one_ (i := 4) (N := (some 70)) #[true, true, true, true, true, true, true, true, true, false, false, false, false, false, false, false, false, false, false, false, false, false, false, false] rfl rfl (kj HT_.out (by kernel_rfl)) (by decide) (fun K hK => ?_)
    refine k7 Tryd.func15 (by kernel_rfl) rfl #[.agg #[.slice Aa a.length ca], .agg #[.slice Ab b.length cb]] (by rfl) rfl rfl (by (try simp only [List.map_toArray, List.map_cons, List.map_nil]); first | done | rfl | (simp only [List.length_drop, List.length_take]; rfl)) ?_
    refine (matchT2 _ (Kd.xc HCa.out (qj HB.out HB8.out)) HPa.out (Kd.xc HCb.out (qj HB.out HB8.out)) HPb.out FIa.out FIb.out R1.out).mono ?_
    rintro e_ w34 ⟨rfl, hq⟩
    refine ⟨_, rfl, ?_⟩
    replace BP := qa.mk (qt BP.out hq)
    replace HB8 := qa.mk (qj HB8.out hq)
    clear hq
    refine hK.out _ _ ⟨(qi BP.out 0).trans rfl, (qi BP.out 1).trans rfl⟩ (fun hHeld => ?_)
    clear hK K
    refine kw (a' := ?_) ?_ ?_
    rotate_left
    ·show Act.put _ (some 70) _ = _
     simp only [Act.put, List.setIfInBounds_toArray, List.set_cons_zero, List.set_cons_succ, qy, qz]
     rfl
    refine one_ (i := 9) (N := (some 75)) #[true, true, true, true, true, true, true, true, true, true, false, false, false, false, false, false, false, false, false, false, false, false, false, false] rfl rfl (kj HT_.out (by kernel_rfl)) (by decide) (fun K hK => ?_)
    refine k7 Tryd.func16 (by kernel_rfl) rfl #[.agg #[.slice Aa a.length ca], .agg #[.slice Ab b.length cb]] (by rfl) rfl rfl (by (try simp only [List.map_toArray, List.map_cons, List.map_nil]); first | done | rfl | (simp only [List.length_drop, List.length_take]; rfl)) ?_
    refine (matchR2 _ (Kd.xc HCa.out (qj HB.out HB8.out)) HPa.out (Kd.xc HCb.out (qj HB.out HB8.out)) HPb.out FIa.out FIb.out R1.out).mono ?_
    rintro e_ w39 ⟨rfl, hq⟩
    refine ⟨_, rfl, ?_⟩
    replace BP := qa.mk (qt BP.out hq)
    replace HB8 := qa.mk (qj HB8.out hq)
    clear hq
    refine hK.out _ _ ⟨(qi BP.out 0).trans rfl, (qi BP.out 1).trans rfl⟩ (fun hHeld => ?_)
    clear hK K
    refine kw (a' := ?_) ?_ ?_
    rotate_left
    ·show Act.put _ (some 75) _ = _
     simp only [Act.put, List.setIfInBounds_toArray, List.set_cons_zero, List.set_cons_succ, qy, qz]
     rfl
    refine zt (i := 10) (N := (some 76)) (v := ?_) (a' := ?_) #[true, true, true, true, true, true, true, true, true, true, true, false, false, false, false, false, false, false, false, false, false, false, false, false] rfl rfl (zc HT_.out (by kernel_rfl)) (fun _ _ _ h => h) (Or.inl ⟨by rfl, ?_⟩) ?_ ?_
    rotate_left
    ·intro w'
     go_simp
     with_reducible rfl
    rotate_left
    ·simp only [Act.put, List.setIfInBounds_toArray, List.set_cons_zero, List.set_cons_succ, qy, qz]
     rfl
    refine zt (i := 11) (N := (some 77)) (v := ?_) (a' := ?_) #[true, true, true, true, true, true, true, true, true, true, true, true, false, false, false, false, false, false, false, false, false, false, false, false] rfl rfl (zc HT_.out (by kernel_rfl)) (fun _ _ _ h => h) (Or.inl ⟨by rfl, ?_⟩) ?_ ?_
    rotate_left
    ·intro w'
     go_simp
     with_reducible rfl
    rotate_left
    ·simp only [Act.put, List.setIfInBounds_toArray, List.set_cons_zero, List.set_cons_succ, qy, qz]
     rfl
    refine zt (i := 12) (N := (some 78)) (v := ?_) (a' := ?_) #[true, true, true, true, true, true, true, true, true, true, true, true, true, false, false, false, false, false, false, false, false, false, false, false] rfl rfl (zc HT_.out (by kernel_rfl)) (fun _ _ _ h => h) (Or.inl ⟨by rfl, ?_⟩) ?_ ?_
    rotate_left
    ·intro w'
     go_simp
     with_reducible rfl
    rotate_left
    ·simp only [Act.put, List.setIfInBounds_toArray, List.set_cons_zero, List.set_cons_succ, qy, qz]
     rfl
    refine zt (i := 14) (N := (some 80)) (v := ?_) (a' := ?_) #[true, true, true, true, true, true, true, true, true, true, true, true, true, false, true, false, false, false, false, false, false, false, false, false] rfl rfl (zc HT_.out (by kernel_rfl)) (fun _ _ _ h => h) (Or.inl ⟨by rfl, ?_⟩) ?_ ?_
    rotate_left
    ·intro w'
     go_simp
     with_reducible rfl
    rotate_left
    ·simp only [Act.put, List.setIfInBounds_toArray, List.set_cons_zero, List.set_cons_succ, qy, qz]
     rfl
    refine zt (i := 17) (N := (some 83)) (v := ?_) (a' := ?_) #[true, true, true, true, true, true, true, true, true, true, true, true, true, false, true, false, false, true, false, false, false, false, false, false] rfl rfl (zc HT_.out (by kernel_rfl)) (fun _ _ _ h => h) (Or.inl ⟨by rfl, ?_⟩) ?_ ?_
    rotate_left
    ·intro w'
     go_simp
     with_reducible rfl
    rotate_left
    ·simp only [Act.put, List.setIfInBounds_toArray, List.set_cons_zero, List.set_cons_succ, qy, qz]
     rfl
    refine zt (i := 19) (N := (some 85)) (v := ?_) (a' := ?_) #[true, true, true, true, true, true, true, true, true, true, true, true, true, false, true, false, false, true, false, true, false, false, false, false] rfl rfl (zc HT_.out (by kernel_rfl)) (fun _ _ _ h => h) (Or.inl ⟨by rfl, ?_⟩) ?_ ?_
    rotate_left
    ·intro w'
     go_simp
     with_reducible rfl
    rotate_left
    ·simp only [Act.put, List.setIfInBounds_toArray, List.set_cons_zero, List.set_cons_succ, qy, qz]
     rfl
    refine xm (i := 13) (N := (some 79)) (v := ?_) (a' := ?_) #[true, true, true, true, true, true, true, true, true, true, true, true, true, true, true, false, false, true, false, true, false, false, false, false] rfl rfl (zj HT_.out HW_.out (by kernel_rfl)) (fun _ _ _ h => h) (Or.inl ⟨by rfl, ?_⟩) hHeld ?_ ?_
    rotate_left
    ·rintro w' ⟨s0, s1⟩
     go_simp
     with_reducible rfl
    rotate_left
    ·simp only [Act.put, List.setIfInBounds_toArray, List.set_cons_zero, List.set_cons_succ, qy, qz]
     rfl
    refine xm (i := 15) (N := (some 81)) (v := ?_) (a' := ?_) #[true, true, true, true, true, true, true, true, true, true, true, true, true, true, true, true, false, true, false, true, false, false, false, false] rfl rfl (zj HT_.out HW_.out (by kernel_rfl)) (fun _ _ _ h => h) (Or.inl ⟨by rfl, ?_⟩) hHeld ?_ ?_
    rotate_left
    ·rintro w' ⟨s0, s1⟩
     go_simp
     with_reducible rfl
    rotate_left
    ·simp only [Act.put, List.setIfInBounds_toArray, List.set_cons_zero, List.set_cons_succ, qy, qz]
     rfl
    refine xm (i := 18) (N := (some 84)) (v := ?_) (a' := ?_) #[true, true, true, true, true, true, true, true, true, true, true, true, true, true, true, true, false, true, true, true, false, false, false, false] rfl rfl (zj HT_.out HW_.out (by kernel_rfl)) (fun _ _ _ h => h) (Or.inl ⟨by rfl, ?_⟩) hHeld ?_ ?_
    rotate_left
    ·rintro w' ⟨s0, s1⟩
     go_simp
     with_reducible rfl
    rotate_left
    ·simp only [Act.put, List.setIfInBounds_toArray, List.set_cons_zero, List.set_cons_succ, qy, qz]
     rfl
    refine xm (i := 20) (N := (some 86)) (v := ?_) (a' := ?_) #[true, true, true, true, true, true, true, true, true, true, true, true, true, true, true, true, false, true, true, true, true, false, false, false] rfl rfl (zj HT_.out HW_.out (by kernel_rfl)) (fun _ _ _ h => h) (Or.inl ⟨by rfl, ?_⟩) hHeld ?_ ?_
    rotate_left
    ·rintro w' ⟨s0, s1⟩
     go_simp
     with_reducible rfl
    rotate_left
    ·simp only [Act.put, List.setIfInBounds_toArray, List.set_cons_zero, List.set_cons_succ, qy, qz]
     rfl
    refine one_ (i := 16) (N := (some 82)) #[true, true, true, true, true, true, true, true, true, true, true, true, true, true, true, true, true, true, true, true, true, false, false, false] rfl rfl (kj HT_.out (by kernel_rfl)) (by decide) (fun K hK => ?_)
    refine k7 Tryd.func17 (by kernel_rfl) rfl #[.agg #[.slice Aa a.length ca], .agg #[.slice Ab b.length cb]] (by rfl) rfl rfl (by (try simp only [List.map_toArray, List.map_cons, List.map_nil]); first | done | rfl | (simp only [List.length_drop, List.length_take]; rfl)) ?_
    refine (withinT2 _ (Kd.xc HCa.out (qj HB.out HB8.out)) HPa.out (Kd.xc HCb.out (qj HB.out HB8.out)) HPb.out FIa.out FIb.out R2.out).mono ?_
    rintro e_ w46 ⟨rfl, hq⟩
    refine ⟨_, rfl, ?_⟩
    replace BP := qa.mk (qt BP.out hq)
    replace HB8 := qa.mk (qj HB8.out hq)
    clear hq
    refine hK.out _ _ ⟨(qi BP.out 0).trans rfl, (qi BP.out 1).trans rfl⟩ (fun hHeld => ?_)
    clear hK K
    refine kw (a' := ?_) ?_ ?_
    rotate_left
    ·show Act.put _ (some 82) _ = _
     simp only [Act.put, List.setIfInBounds_toArray, List.set_cons_zero, List.set_cons_succ, qy, qz]
     rfl
    refine one_ (i := 21) (N := (some 87)) #[true, true, true, true, true, true, true, true, true, true, true, true, true, true, true, true, true, true, true, true, true, true, false, false] rfl rfl (kj HT_.out (by kernel_rfl)) (by decide) (fun K hK => ?_)
    refine k7 Tryd.func18 (by kernel_rfl) rfl #[.agg #[.slice Aa a.length ca], .agg #[.slice Ab b.length cb]] (by rfl) rfl rfl (by (try simp only [List.map_toArray, List.map_cons, List.map_nil]); first | done | rfl | (simp only [List.length_drop, List.length_take]; rfl)) ?_
    refine (withinR2 _ (Kd.xc HCa.out (qj HB.out HB8.out)) HPa.out (Kd.xc HCb.out (qj HB.out HB8.out)) HPb.out FIa.out FIb.out R2.out).mono ?_
    rintro e_ w51 ⟨rfl, hq⟩
    refine ⟨_, rfl, ?_⟩
    replace BP := qa.mk (qt BP.out hq)
    replace HB8 := qa.mk (qj HB8.out hq)
    clear hq
    refine hK.out _ _ ⟨(qi BP.out 0).trans rfl, (qi BP.out 1).trans rfl⟩ (fun hHeld => ?_)
    clear hK K
    refine kw (a' := ?_) ?_ ?_
    rotate_left
    ·show Act.put _ (some 87) _ = _
     simp only [Act.put, List.setIfInBounds_toArray, List.set_cons_zero, List.set_cons_succ, qy, qz]
     rfl
    refine zt (i := 22) (N := (some 88)) (v := ?_) (a' := ?_) #[true, true, true, true, true, true, true, true, true, true, true, true, true, true, true, true, true, true, true, true, true, true, true, false] rfl rfl (zc HT_.out (by kernel_rfl)) (fun _ _ _ h => h) (Or.inl ⟨by rfl, ?_⟩) ?_ ?_
    rotate_left
    ·intro w'
     go_simp
     with_reducible rfl
    rotate_left
    ·simp only [Act.put, List.setIfInBounds_toArray, List.set_cons_zero, List.set_cons_succ, qy, qz]
     rfl
    refine zt (i := 23) (N := (some 89)) (v := ?_) (a' := ?_) #[true, true, true, true, true, true, true, true, true, true, true, true, true, true, true, true, true, true, true, true, true, true, true, true] rfl rfl (zc HT_.out (by kernel_rfl)) (fun _ _ _ h => h) (Or.inl ⟨by rfl, ?_⟩) ?_ ?_
    rotate_left
    ·intro w'
     go_simp
     with_reducible rfl
    rotate_left
    ·simp only [Act.put, List.setIfInBounds_toArray, List.set_cons_zero, List.set_cons_succ, qy, qz]
     rfl
    refine done_ (done_of HT_.out (by kernel_rfl)) ?_
    go_wp2
    go_roundg 5
    case measure => omega
    case rel => exact ⟨1, rfl, ⟨by omega⟩, ⟨by omega⟩, HB8⟩
   | 5, hi, hk6 =>
    obtain rfl : i = 1 := by have := hi.out; omega
    clear hi hk6
    have y0_ : wr.cell? ⟨gL, 2, none⟩ = some (.slice An n.length cn) := (qi BLr.out 2).trans rfl
    have y1_ : wr.cell? ⟨gL, 3, none⟩ = some (.slice Am m.length cm) := (qi BLr.out 3).trans rfl
    go_upto_region 11 with (fail)
    obtain ⟨gP, hgP⟩ : ∃ g_, g_ = wr.heap.size := ⟨_, rfl⟩
    obtain ⟨W9, hWW⟩ : ∃ W_, W_ = wr.alloc (Obj.cells #[Value.slice An n.length cn, Value.slice Am m.length cm] 41) := ⟨_, rfl⟩
    rw [← hWW, ← hgP]
    replace HB8 := qa.mk (show Below W8.heap.size W8 W9 by rw [hWW]; exact qc HB8.out _)
    have BP := qa.mk (show W9.heap[gP]? = some (.cells #[.slice An n.length cn, .slice Am m.length cm] 41 (0, 0)) by rw [hWW, hgP]; exact heap_alloc_new _ _)
    clear hWW hgP y0_ y1_
    obtain ⟨r1, hr1⟩ : ∃ r_, matchS n m = r_ := ⟨_, rfl⟩
    obtain ⟨r2, hr2⟩ : ∃ r_, withinS n m = r_ := ⟨_, rfl⟩
    have R1 := qa.mk hr1
    have R2 := qa.mk hr2
    clear hr1 hr2
    replace HB8 := qa.mk (qd HB8.out)
    replace BP := qa.mk (qh BP.out)
    refine start_ (n := 24) (S := fun w' => w'.cell? ⟨gP, 0, none⟩ = some (.slice An n.length cn) ∧ w'.cell? ⟨gP, 1, none⟩ = some (.slice Am m.length cm)) (ds := []) #[false, false, false, false, false, false, false, false, false, false, false, false, false, false, false, false, false, false, false, false, false, false, false, false] (by kernel_rfl) rfl rfl ⟨(qi BP.out 0).trans rfl, (qi BP.out 1).trans rfl⟩ (fun hHeld => ?_); refine k8 mat.tab11 mat.bits11 (fun HT_ HW_ => ?_)
    generalize W9.drew = w20 at BP HB8 hHeld ⊢
    refine zt (i := 0) (N := (some 66)) (v := ?_) (a' := ?_) #[true, false, false, false, false, false, false, false, false, false, false, false, false, false, false, false, false, false, false, false, false, false, false, false] rfl rfl (zc HT_.out (by kernel_rfl)) (fun _ _ _ h => h) (Or.inl ⟨by rfl, ?_⟩) ?_ ?_
    rotate_left
    ·intro w'
     go_simp
     with_reducible rfl
    rotate_left
    ·simp only [Act.put, List.setIfInBounds_toArray, List.set_cons_zero, List.set_cons_succ, qy, qz]
     rfl
    refine zt (i := 2) (N := (some 68)) (v := ?_) (a' := ?_) #[true, false, true, false, false, false, false, false, false, false, false, false, false, false, false, false, false, false, false, false, false, false, false, false] rfl rfl (zc HT_.out (by kernel_rfl)) (fun _ _ _ h => h) (Or.inl ⟨by rfl, ?_⟩) ?_ ?_
    rotate_left
    ·intro w'
     go_simp
     with_reducible rfl
    rotate_left
    ·simp only [Act.put, List.setIfInBounds_toArray, List.set_cons_zero, List.set_cons_succ, qy, qz]
     rfl
    refine zt (i := 5) (N := (some 71)) (v := ?_) (a' := ?_) #[true, false, true, false, false, true, false, false, false, false, false, false, false, false, false, false, false, false, false, false, false, false, false, false] rfl rfl (zc HT_.out (by kernel_rfl)) (fun _ _ _ h => h) (Or.inl ⟨by rfl, ?_⟩) ?_ ?_
    rotate_left
    ·intro w'
     go_simp
     with_reducible rfl
    rotate_left
    ·simp only [Act.put, List.setIfInBounds_toArray, List.set_cons_zero, List.set_cons_succ, qy, qz]
     rfl
    refine zt (i := 7) (N := (some 73)) (v := ?_) (a' := ?_) #[true, false, true, false, false, true, false, true, false, false, false, false, false, false, false, false, false, false, false, false, false, false, false, false] rfl rfl (zc HT_.out (by kernel_rfl)) (fun _ _ _ h => h) (Or.inl ⟨by rfl, ?_⟩) ?_ ?_
    rotate_left
    ·intro w'
     go_simp
     with_reducible rfl
    rotate_left
    ·simp only [Act.put, List.setIfInBounds_toArray, List.set_cons_zero, List.set_cons_succ, qy, qz]
     rfl
    refine xm (i := 1) (N := (some 67)) (v := ?_) (a' := ?_) #[true, true, true, false, false, true, false, true, false, false, false, false, false, false, false, false, false, false, false, false, false, false, false, false] rfl rfl (zj HT_.out HW_.out (by kernel_rfl)) (fun _ _ _ h => h) (Or.inl ⟨by rfl, ?_⟩) hHeld ?_ ?_
    rotate_left
    ·rintro w' ⟨s0, s1⟩
     go_simp
     with_reducible rfl
    rotate_left
    ·simp only [Act.put, List.setIfInBounds_toArray, List.set_cons_zero, List.set_cons_succ, qy, qz]
     rfl
    refine xm (i := 3) (N := (some 69)) (v := ?_) (a' := ?_) #[true, true, true, true, false, true, false, true, false, false, false, false, false, false, false, false, false, false, false, false, false, false, false, false] rfl rfl (zj HT_.out HW_.out (by kernel_rfl)) (fun _ _ _ h => h) (Or.inl ⟨by rfl, ?_⟩) hHeld ?_ ?_
    rotate_left
    ·rintro w' ⟨s0, s1⟩
     go_simp
     with_reducible rfl
    rotate_left
    ·simp only [Act.put, List.setIfInBounds_toArray, List.set_cons_zero, List.set_cons_succ, qy, qz]
     rfl
    refine xm (i := 6) (N := (some 72)) (v := ?_) (a' := ?_) #[true, true, true, true, false, true, true, true, false, false, false, false, false, false, false, false, false, false, false, false, false, false, false, false] rfl rfl (zj HT_.out HW_.out (by kernel_rfl)) (fun _ _ _ h => h) (Or.inl ⟨by rfl, ?_⟩) hHeld ?_ ?_
    rotate_left
    ·rintro w' ⟨s0, s1⟩
     go_simp
     with_reducible rfl
    rotate_left
    ·simp only [Act.put, List.setIfInBounds_toArray, List.set_cons_zero, List.set_cons_succ, qy, qz]
     rfl
    refine xm (i := 8) (N := (some 74)) (v := ?_) (a' := ?_) #[true, true, true, true, false, true, true, true, true, false, false, false, false, false, false, false, false, false, false, false, false, false, false, false] rfl rfl (zj HT_.out HW_.out (by kernel_rfl)) (fun _ _ _ h => h) (Or.inl ⟨by rfl, ?_⟩) hHeld ?_ ?_
    rotate_left
    ·rintro w' ⟨s0, s1⟩
     go_simp
     with_reducible rfl
    rotate_left
    ·simp only [Act.put, List.setIfInBounds_toArray, List.set_cons_zero, List.set_cons_succ, qy, qz]
     rfl
    refine one_ (i := 4) (N := (some 70)) #[true, true, true, true, true, true, true, true, true, false, false, false, false, false, false, false, false, false, false, false, false, false, false, false] rfl rfl (kj HT_.out (by kernel_rfl)) (by decide) (fun K hK => ?_)
    refine k7 Tryd.func15 (by kernel_rfl) rfl #[.agg #[.slice An n.length cn], .agg #[.slice Am m.length cm]] (by rfl) rfl rfl (by (try simp only [List.map_toArray, List.map_cons, List.map_nil]); first | done | rfl | (simp only [List.length_drop, List.length_take]; rfl)) ?_
    refine (matchT2 _ (NAn.out.keep (KeepT.of (KeepBut.of_below HB8.out g none))).now NAn.out.cap (NAm.out.keep (KeepT.of (KeepBut.of_below HB8.out g none))).now NAm.out.cap FIn.out FIm.out R1.out).mono ?_
    rintro e_ w34 ⟨rfl, hq⟩
    refine ⟨_, rfl, ?_⟩
    replace BP := qa.mk (qt BP.out hq)
    replace HB8 := qa.mk (qj HB8.out hq)
    clear hq
    refine hK.out _ _ ⟨(qi BP.out 0).trans rfl, (qi BP.out 1).trans rfl⟩ (fun hHeld => ?_)
    clear hK K
    refine kw (a' := ?_) ?_ ?_
    rotate_left
    ·show Act.put _ (some 70) _ = _
     simp only [Act.put, List.setIfInBounds_toArray, List.set_cons_zero, List.set_cons_succ, qy, qz]
     rfl
    refine one_ (i := 9) (N := (some 75)) #[true, true, true, true, true, true, true, true, true, true, false, false, false, false, false, false, false, false, false, false, false, false, false, false] rfl rfl (kj HT_.out (by kernel_rfl)) (by decide) (fun K hK => ?_)
    refine k7 Tryd.func16 (by kernel_rfl) rfl #[.agg #[.slice An n.length cn], .agg #[.slice Am m.length cm]] (by rfl) rfl rfl (by (try simp only [List.map_toArray, List.map_cons, List.map_nil]); first | done | rfl | (simp only [List.length_drop, List.length_take]; rfl)) ?_
    refine (matchR2 _ (NAn.out.keep (KeepT.of (KeepBut.of_below HB8.out g none))).now NAn.out.cap (NAm.out.keep (KeepT.of (KeepBut.of_below HB8.out g none))).now NAm.out.cap FIn.out FIm.out R1.out).mono ?_
    rintro e_ w39 ⟨rfl, hq⟩
    refine ⟨_, rfl, ?_⟩
    replace BP := qa.mk (qt BP.out hq)
    replace HB8 := qa.mk (qj HB8.out hq)
    clear hq
    refine hK.out _ _ ⟨(qi BP.out 0).trans rfl, (qi BP.out 1).trans rfl⟩ (fun hHeld => ?_)
    clear hK K
    refine kw (a' := ?_) ?_ ?_
    rotate_left
    ·show Act.put _ (some 75) _ = _
     simp only [Act.put, List.setIfInBounds_toArray, List.set_cons_zero, List.set_cons_succ, qy, qz]
     rfl
    refine zt (i := 10) (N := (some 76)) (v := ?_) (a' := ?_) #[true, true, true, true, true, true, true, true, true, true, true, false, false, false, false, false, false, false, false, false, false, false, false, false] rfl rfl (zc HT_.out (by kernel_rfl)) (fun _ _ _ h => h) (Or.inl ⟨by rfl, ?_⟩) ?_ ?_
    rotate_left
    ·intro w'
     go_simp
     with_reducible rfl
    rotate_left
    ·simp only [Act.put, List.setIfInBounds_toArray, List.set_cons_zero, List.set_cons_succ, qy, qz]
     rfl
    refine zt (i := 11) (N := (some 77)) (v := ?_) (a' := ?_) #[true, true, true, true, true, true, true, true, true, true, true, true, false, false, false, false, false, false, false, false, false, false, false, false] rfl rfl (zc HT_.out (by kernel_rfl)) (fun _ _ _ h => h) (Or.inl ⟨by rfl, ?_⟩) ?_ ?_
    rotate_left
    ·intro w'
     go_simp
     with_reducible rfl
    rotate_left
    ·simp only [Act.put, List.setIfInBounds_toArray, List.set_cons_zero, List.set_cons_succ, qy, qz]
     rfl
    refine zt (i := 12) (N := (some 78)) (v := ?_) (a' := ?_) #[true, true, true, true, true, true, true, true, true, true, true, true, true, false, false, false, false, false, false, false, false, false, false, false] rfl rfl (zc HT_.out (by kernel_rfl)) (fun _ _ _ h => h) (Or.inl ⟨by rfl, ?_⟩) ?_ ?_
    rotate_left
    ·intro w'
     go_simp
     with_reducible rfl
    rotate_left
    ·simp only [Act.put, List.setIfInBounds_toArray, List.set_cons_zero, List.set_cons_succ, qy, qz]
     rfl
    refine zt (i := 14) (N := (some 80)) (v := ?_) (a' := ?_) #[true, true, true, true, true, true, true, true, true, true, true, true, true, false, true, false, false, false, false, false, false, false, false, false] rfl rfl (zc HT_.out (by kernel_rfl)) (fun _ _ _ h => h) (Or.inl ⟨by rfl, ?_⟩) ?_ ?_
    rotate_left
    ·intro w'
     go_simp
     with_reducible rfl
    rotate_left
    ·simp only [Act.put, List.setIfInBounds_toArray, List.set_cons_zero, List.set_cons_succ, qy, qz]
     rfl
    refine zt (i := 17) (N := (some 83)) (v := ?_) (a' := ?_) #[true, true, true, true, true, true, true, true, true, true, true, true, true, false, true, false, false, true, false, false, false, false, false, false] rfl rfl (zc HT_.out (by kernel_rfl)) (fun _ _ _ h => h) (Or.inl ⟨by rfl, ?_⟩) ?_ ?_
    rotate_left
    ·intro w'
     go_simp
     with_reducible rfl
    rotate_left
    ·simp only [Act.put, List.setIfInBounds_toArray, List.set_cons_zero, List.set_cons_succ, qy, qz]
     rfl
    refine zt (i := 19) (N := (some 85)) (v := ?_) (a' := ?_) #[true, true, true, true, true, true, true, true, true, true, true, true, true, false, true, false, false, true, false, true, false, false, false, false] rfl rfl (zc HT_.out (by kernel_rfl)) (fun _ _ _ h => h) (Or.inl ⟨by rfl, ?_⟩) ?_ ?_
    rotate_left
    ·intro w'
     go_simp
     with_reducible rfl
    rotate_left
    ·simp only [Act.put, List.setIfInBounds_toArray, List.set_cons_zero, List.set_cons_succ, qy, qz]
     rfl
    refine xm (i := 13) (N := (some 79)) (v := ?_) (a' := ?_) #[true, true, true, true, true, true, true, true, true, true, true, true, true, true, true, false, false, true, false, true, false, false, false, false] rfl rfl (zj HT_.out HW_.out (by kernel_rfl)) (fun _ _ _ h => h) (Or.inl ⟨by rfl, ?_⟩) hHeld ?_ ?_
    rotate_left
    ·rintro w' ⟨s0, s1⟩
     go_simp
     with_reducible rfl
    rotate_left
    ·simp only [Act.put, List.setIfInBounds_toArray, List.set_cons_zero, List.set_cons_succ, qy, qz]
     rfl
    refine xm (i := 15) (N := (some 81)) (v := ?_) (a' := ?_) #[true, true, true, true, true, true, true, true, true, true, true, true, true, true, true, true, false, true, false, true, false, false, false, false] rfl rfl (zj HT_.out HW_.out (by kernel_rfl)) (fun _ _ _ h => h) (Or.inl ⟨by rfl, ?_⟩) hHeld ?_ ?_
    rotate_left
    ·rintro w' ⟨s0, s1⟩
     go_simp
     with_reducible rfl
    rotate_left
    ·simp only [Act.put, List.setIfInBounds_toArray, List.set_cons_zero, List.set_cons_succ, qy, qz]
     rfl
    refine xm (i := 18) (N := (some 84)) (v := ?_) (a' := ?_) #[true, true, true, true, true, true, true, true, true, true, true, true, true, true, true, true, false, true, true, true, false, false, false, false] rfl rfl (zj HT_.out HW_.out (by kernel_rfl)) (fun _ _ _ h => h) (Or.inl ⟨by rfl, ?_⟩) hHeld ?_ ?_
    rotate_left
    ·rintro w' ⟨s0, s1⟩
     go_simp
     with_reducible rfl
    rotate_left
    ·simp only [Act.put, List.setIfInBounds_toArray, List.set_cons_zero, List.set_cons_succ, qy, qz]
     rfl
    refine xm (i := 20) (N := (some 86)) (v := ?_) (a' := ?_) #[true, true, true, true, true, true, true, true, true, true, true, true, true, true, true, true, false, true, true, true, true, false, false, false] rfl rfl (zj HT_.out HW_.out (by kernel_rfl)) (fun _ _ _ h => h) (Or.inl ⟨by rfl, ?_⟩) hHeld ?_ ?_
    rotate_left
    ·rintro w' ⟨s0, s1⟩
     go_simp
     with_reducible rfl
    rotate_left
    ·simp only [Act.put, List.setIfInBounds_toArray, List.set_cons_zero, List.set_cons_succ, qy, qz]
     rfl
    refine one_ (i := 16) (N := (some 82)) #[true, true, true, true, true, true, true, true, true, true, true, true, true, true, true, true, true, true, true, true, true, false, false, false] rfl rfl (kj HT_.out (by kernel_rfl)) (by decide) (fun K hK => ?_)
    refine k7 Tryd.func17 (by kernel_rfl) rfl #[.agg #[.slice An n.length cn], .agg #[.slice Am m.length cm]] (by rfl) rfl rfl (by (try simp only [List.map_toArray, List.map_cons, List.map_nil]); first | done | rfl | (simp only [List.length_drop, List.length_take]; rfl)) ?_
    refine (withinT2 _ (NAn.out.keep (KeepT.of (KeepBut.of_below HB8.out g none))).now NAn.out.cap (NAm.out.keep (KeepT.of (KeepBut.of_below HB8.out g none))).now NAm.out.cap FIn.out FIm.out R2.out).mono ?_
    rintro e_ w46 ⟨rfl, hq⟩
    refine ⟨_, rfl, ?_⟩
    replace BP := qa.mk (qt BP.out hq)
    replace HB8 := qa.mk (qj HB8.out hq)
    clear hq
    refine hK.out _ _ ⟨(qi BP.out 0).trans rfl, (qi BP.out 1).trans rfl⟩ (fun hHeld => ?_)
    clear hK K
    refine kw (a' := ?_) ?_ ?_
    rotate_left
    ·show Act.put _ (some 82) _ = _
     simp only [Act.put, List.setIfInBounds_toArray, List.set_cons_zero, List.set_cons_succ, qy, qz]
     rfl
    refine one_ (i := 21) (N := (some 87)) #[true, true, true, true, true, true, true, true, true, true, true, true, true, true, true, true, true, true, true, true, true, true, false, false] rfl rfl (kj HT_.out (by kernel_rfl)) (by decide) (fun K hK => ?_)
    refine k7 Tryd.func18 (by kernel_rfl) rfl #[.agg #[.slice An n.length cn], .agg #[.slice Am m.length cm]] (by rfl) rfl rfl (by (try simp only [List.map_toArray, List.map_cons, List.map_nil]); first | done | rfl | (simp only [List.length_drop, List.length_take]; rfl)) ?_
    refine (withinR2 _ (NAn.out.keep (KeepT.of (KeepBut.of_below HB8.out g none))).now NAn.out.cap (NAm.out.keep (KeepT.of (KeepBut.of_below HB8.out g none))).now NAm.out.cap FIn.out FIm.out R2.out).mono ?_
    rintro e_ w51 ⟨rfl, hq⟩
    refine ⟨_, rfl, ?_⟩
    replace BP := qa.mk (qt BP.out hq)
    replace HB8 := qa.mk (qj HB8.out hq)
    clear hq
    refine hK.out _ _ ⟨(qi BP.out 0).trans rfl, (qi BP.out 1).trans rfl⟩ (fun hHeld => ?_)
    clear hK K
    refine kw (a' := ?_) ?_ ?_
    rotate_left
    ·show Act.put _ (some 87) _ = _
     simp only [Act.put, List.setIfInBounds_toArray, List.set_cons_zero, List.set_cons_succ, qy, qz]
     rfl
    refine zt (i := 22) (N := (some 88)) (v := ?_) (a' := ?_) #[true, true, true, true, true, true, true, true, true, true, true, true, true, true, true, true, true, true, true, true, true, true, true, false] rfl rfl (zc HT_.out (by kernel_rfl)) (fun _ _ _ h => h) (Or.inl ⟨by rfl, ?_⟩) ?_ ?_
    rotate_left
    ·intro w'
     go_simp
     with_reducible rfl
    rotate_left
    ·simp only [Act.put, List.setIfInBounds_toArray, List.set_cons_zero, List.set_cons_succ, qy, qz]
     rfl
    refine zt (i := 23) (N := (some 89)) (v := ?_) (a' := ?_) #[true, true, true, true, true, true, true, true, true, true, true, true, true, true, true, true, true, true, true, true, true, true, true, true] rfl rfl (zc HT_.out (by kernel_rfl)) (fun _ _ _ h => h) (Or.inl ⟨by rfl, ?_⟩) ?_ ?_
    rotate_left
    ·intro w'
     go_simp
     with_reducible rfl
    rotate_left
    ·simp only [Act.put, List.setIfInBounds_toArray, List.set_cons_zero, List.set_cons_succ, qy, qz]
     rfl
    refine done_ (done_of HT_.out (by kernel_rfl)) ?_
    go_wp2
    go_roundg 4
    case measure => omega
    case rel => exact ⟨2, rfl, ⟨by omega⟩, ⟨by omega⟩, HB8⟩
   | 4, hi, hk6 =>
    obtain rfl : i = 2 := by have := hi.out; omega
    clear hi hk6
    have y0_ : wr.cell? ⟨gL, 4, none⟩ = some (.slice An n.length cn) := (qi BLr.out 4).trans rfl
    have y1_ : wr.cell? ⟨gL, 5, none⟩ = some (.slice Am o.length cm) := (qi BLr.out 5).trans rfl
    go_upto_region 11 with (fail)
    obtain ⟨gP, hgP⟩ : ∃ g_, g_ = wr.heap.size := ⟨_, rfl⟩
    obtain ⟨W9, hWW⟩ : ∃ W_, W_ = wr.alloc (Obj.cells #[Value.slice An n.length cn, Value.slice Am o.length cm] 41) := ⟨_, rfl⟩
    rw [← hWW, ← hgP]
    replace HB8 := qa.mk (show Below W8.heap.size W8 W9 by rw [hWW]; exact qc HB8.out _)
    have BP := qa.mk (show W9.heap[gP]? = some (.cells #[.slice An n.length cn, .slice Am o.length cm] 41 (0, 0)) by rw [hWW, hgP]; exact heap_alloc_new _ _)
    clear hWW hgP y0_ y1_
    obtain ⟨r1, hr1⟩ : ∃ r_, matchS n o = r_ := ⟨_, rfl⟩
    obtain ⟨r2, hr2⟩ : ∃ r_, withinS n o = r_ := ⟨_, rfl⟩
    have R1 := qa.mk hr1
    have R2 := qa.mk hr2
    clear hr1 hr2
    replace HB8 := qa.mk (qd HB8.out)
    replace BP := qa.mk (qh BP.out)
    refine start_ (n := 24) (S := fun w' => w'.cell? ⟨gP, 0, none⟩ = some (.slice An n.length cn) ∧ w'.cell? ⟨gP, 1, none⟩ = some (.slice Am o.length cm)) (ds := []) #[false, false, false, false, false, false, false, false, false, false, false, false, false, false, false, false, false, false, false, false, false, false, false, false] (by kernel_rfl) rfl rfl ⟨(qi BP.out 0).trans rfl, (qi BP.out 1).trans rfl⟩ (fun hHeld => ?_); refine k8 mat.tab11 mat.bits11 (fun HT_ HW_ => ?_)
    generalize W9.drew = w20 at BP HB8 hHeld ⊢
    refine zt (i := 0) (N := (some 66)) (v := ?_) (a' := ?_) #[true, false, false, false, false, false, false, false, false, false, false, false, false, false, false, false, false, false, false, false, false, false, false, false] rfl rfl (zc HT_.out (by kernel_rfl)) (fun _ _ _ h => h) (Or.inl ⟨by rfl, ?_⟩) ?_ ?_
    rotate_left
    ·intro w'
     go_simp
     with_reducible rfl
    rotate_left
    ·simp only [Act.put, List.setIfInBounds_toArray, List.set_cons_zero, List.set_cons_succ, qy, qz]
     rfl
    refine zt (i := 2) (N := (some 68)) (v := ?_) (a' := ?_) #[true, false, true, false, false, false, false, false, false, false, false, false, false, false, false, false, false, false, false, false, false, false, false, false] rfl rfl (zc HT_.out (by kernel_rfl)) (fun _ _ _ h => h) (Or.inl ⟨by rfl, ?_⟩) ?_ ?_
    rotate_left
    ·intro w'
     go_simp
     with_reducible rfl
    rotate_left
    ·simp only [Act.put, List.setIfInBounds_toArray, List.set_cons_zero, List.set_cons_succ, qy, qz]
     rfl
    refine zt (i := 5) (N := (some 71)) (v := ?_) (a' := ?_) #[true, false, true, false, false, true, false, false, false, false, false, false, false, false, false, false, false, false, false, false, false, false, false, false] rfl rfl (zc HT_.out (by kernel_rfl)) (fun _ _ _ h => h) (Or.inl ⟨by rfl, ?_⟩) ?_ ?_
    rotate_left
    ·intro w'
     go_simp
     with_reducible rfl
    rotate_left
    ·simp only [Act.put, List.setIfInBounds_toArray, List.set_cons_zero, List.set_cons_succ, qy, qz]
     rfl
    refine zt (i := 7) (N := (some 73)) (v := ?_) (a' := ?_) #[true, false, true, false, false, true, false, true, false, false, false, false, false, false, false, false, false, false, false, false, false, false, false, false] rfl rfl (zc HT_.out (by kernel_rfl)) (fun _ _ _ h => h) (Or.inl ⟨by rfl, ?_⟩) ?_ ?_
    rotate_left
    ·intro w'
     go_simp
     with_reducible rfl
    rotate_left
    ·simp only [Act.put, List.setIfInBounds_toArray, List.set_cons_zero, List.set_cons_succ, qy, qz]
     rfl
    refine xm (i := 1) (N := (some 67)) (v := ?_) (a' := ?_) #[true, true, true, false, false, true, false, true, false, false, false, false, false, false, false, false, false, false, false, false, false, false, false, false] rfl rfl (zj HT_.out HW_.out (by kernel_rfl)) (fun _ _ _ h => h) (Or.inl ⟨by rfl, ?_⟩) hHeld ?_ ?_
    rotate_left
    ·rintro w' ⟨s0, s1⟩
     go_simp
     with_reducible rfl
    rotate_left
    ·simp only [Act.put, List.setIfInBounds_toArray, List.set_cons_zero, List.set_cons_succ, qy, qz]
     rfl
    refine xm (i := 3) (N := (some 69)) (v := ?_) (a' := ?_) #[true, true, true, true, false, true, false, true, false, false, false, false, false, false, false, false, false, false, false, false, false, false, false, false] rfl rfl (zj HT_.out HW_.out (by kernel_rfl)) (fun _ _ _ h => h) (Or.inl ⟨by rfl, ?_⟩) hHeld ?_ ?_
    rotate_left
    ·rintro w' ⟨s0, s1⟩
     go_simp
     with_reducible rfl
    rotate_left
    ·simp only [Act.put, List.setIfInBounds_toArray, List.set_cons_zero, List.set_cons_succ, qy, qz]
     rfl
    refine xm (i := 6) (N := (some 72)) (v := ?_) (a' := ?_) #[true, true, true, true, false, true, true, true, false, false, false, false, false, false, false, false, false, false, false, false, false, false, false, false] rfl rfl (zj HT_.out HW_.out (by kernel_rfl)) (fun _ _ _ h => h) (Or.inl ⟨by rfl, ?_⟩) hHeld ?_ ?_
    rotate_left
    ·rintro w' ⟨s0, s1⟩
     go_simp
     with_reducible rfl
    rotate_left
    ·simp only [Act.put, List.setIfInBounds_toArray, List.set_cons_zero, List.set_cons_succ, qy, qz]
     rfl
    refine xm (i := 8) (N := (some 74)) (v := ?_) (a' := ?_) #[true, true, true, true, false, true, true, true, true, false, false, false, false, false, false, false, false, false, false, false, false, false, false, false] rfl rfl (zj HT_.out HW_.out (by kernel_rfl)) (fun _ _ _ h => h) (Or.inl ⟨by rfl, ?_⟩) hHeld ?_ ?_
    rotate_left
    ·rintro w' ⟨s0, s1⟩
     go_simp
     with_reducible rfl
    rotate_left
    ·simp only [Act.put, List.setIfInBounds_toArray, List.set_cons_zero, List.set_cons_succ, qy, qz]
     rfl
    refine one_ (i := 4) (N := (some 70)) #[true, true, true, true, true, true, true, true, true, false, false, false, false, false, false, false, false, false, false, false, false, false, false, false] rfl rfl (kj HT_.out (by kernel_rfl)) (by decide) (fun K hK => ?_)
    refine k7 Tryd.func15 (by kernel_rfl) rfl #[.agg #[.slice An n.length cn], .agg #[.slice Am o.length cm]] (by rfl) rfl rfl (by (try simp only [List.map_toArray, List.map_cons, List.map_nil]); first | done | rfl | (simp only [List.length_drop, List.length_take]; rfl)) ?_
    refine (matchT2 _ (NAn.out.keep (KeepT.of (KeepBut.of_below HB8.out g none))).now NAn.out.cap (NAo.out.keep (KeepT.of (KeepBut.of_below HB8.out g none))).now NAo.out.cap FIn.out FIo.out R1.out).mono ?_
    rintro e_ w34 ⟨rfl, hq⟩
    refine ⟨_, rfl, ?_⟩
    replace BP := qa.mk (qt BP.out hq)
    replace HB8 := qa.mk (qj HB8.out hq)
    clear hq
    refine hK.out _ _ ⟨(qi BP.out 0).trans rfl, (qi BP.out 1).trans rfl⟩ (fun hHeld => ?_)
    clear hK K
    refine kw (a' := ?_) ?_ ?_
    rotate_left
    ·show Act.put _ (some 70) _ = _
     simp only [Act.put, List.setIfInBounds_toArray, List.set_cons_zero, List.set_cons_succ, qy, qz]
     rfl
    refine one_ (i := 9) (N := (some 75)) #[true, true, true, true, true, true, true, true, true, true, false, false, false, false, false, false, false, false, false, false, false, false, false, false] rfl rfl (kj HT_.out (by kernel_rfl)) (by decide) (fun K hK => ?_)
    refine k7 Tryd.func16 (by kernel_rfl) rfl #[.agg #[.slice An n.length cn], .agg #[.slice Am o.length cm]] (by rfl) rfl rfl (by (try simp only [List.map_toArray, List.map_cons, List.map_nil]); first | done | rfl | (simp only [List.length_drop, List.length_take]; rfl)) ?_
    refine (matchR2 _ (NAn.out.keep (KeepT.of (KeepBut.of_below HB8.out g none))).now NAn.out.cap (NAo.out.keep (KeepT.of (KeepBut.of_below HB8.out g none))).now NAo.out.cap FIn.out FIo.out R1.out).mono ?_
    rintro e_ w39 ⟨rfl, hq⟩
    refine ⟨_, rfl, ?_⟩
    replace BP := qa.mk (qt BP.out hq)
    replace HB8 := qa.mk (qj HB8.out hq)
    clear hq
    refine hK.out _ _ ⟨(qi BP.out 0).trans rfl, (qi BP.out 1).trans rfl⟩ (fun hHeld => ?_)
    clear hK K
    refine kw (a' := ?_) ?_ ?_
    rotate_left
    ·show Act.put _ (some 75) _ = _
     simp only [Act.put, List.setIfInBounds_toArray, List.set_cons_zero, List.set_cons_succ, qy, qz]
     rfl
    refine zt (i := 10) (N := (some 76)) (v := ?_) (a' := ?_) #[true, true, true, true, true, true, true, true, true, true, true, false, false, false, false, false, false, false, false, false, false, false, false, false] rfl rfl (zc HT_.out (by kernel_rfl)) (fun _ _ _ h => h) (Or.inl ⟨by rfl, ?_⟩) ?_ ?_
    rotate_left
    ·intro w'
     go_simp
     with_reducible rfl
    rotate_left
    ·simp only [Act.put, List.setIfInBounds_toArray, List.set_cons_zero, List.set_cons_succ, qy, qz]
     rfl
    refine zt (i := 11) (N := (some 77)) (v := ?_) (a' := ?_) #[true, true, true, true, true, true, true, true, true, true, true, true, false, false, false, false, false, false, false, false, false, false, false, false] rfl rfl (zc HT_.out (by kernel_rfl)) (fun _ _ _ h => h) (Or.inl ⟨by rfl, ?_⟩) ?_ ?_
    rotate_left
    ·intro w'
     go_simp
     with_reducible rfl
    rotate_left
    ·simp only [Act.put, List.setIfInBounds_toArray, List.set_cons_zero, List.set_cons_succ, qy, qz]
     rfl
    refine zt (i := 12) (N := (some 78)) (v := ?_) (a' := ?_) #[true, true, true, true, true, true, true, true, true, true, true, true, true, false, false, false, false, false, false, false, false, false, false, false] rfl rfl (zc HT_.out (by kernel_rfl)) (fun _ _ _ h => h) (Or.inl ⟨by rfl, ?_⟩) ?_ ?_
    rotate_left
    ·intro w'
     go_simp
     with_reducible rfl
    rotate_left
    ·simp only [Act.put, List.setIfInBounds_toArray, List.set_cons_zero, List.set_cons_succ, qy, qz]
     rfl
    refine zt (i := 14) (N := (some 80)) (v := ?_) (a' := ?_) #[true, true, true, true, true, true, true, true, true, true, true, true, true, false, true, false, false, false, false, false, false, false, false, false] rfl rfl (zc HT_.out (by kernel_rfl)) (fun _ _ _ h => h) (Or.inl ⟨by rfl, ?_⟩) ?_ ?_
    rotate_left
    ·intro w'
     go_simp
     with_reducible rfl
    rotate_left
    ·simp only [Act.put, List.setIfInBounds_toArray, List.set_cons_zero, List.set_cons_succ, qy, qz]
     rfl
    refine zt (i := 17) (N := (some 83)) (v := ?_) (a' := ?_) #[true, true, true, true, true, true, true, true, true, true, true, true, true, false, true, false, false, true, false, false, false, false, false, false] rfl rfl (zc HT_.out (by kernel_rfl)) (fun _ _ _ h => h) (Or.inl ⟨by rfl, ?_⟩) ?_ ?_
    rotate_left
    ·intro w'
     go_simp
     with_reducible rfl
    rotate_left
    ·simp only [Act.put, List.setIfInBounds_toArray, List.set_cons_zero, List.set_cons_succ, qy, qz]
     rfl
    refine zt (i := 19) (N := (some 85)) (v := ?_) (a' := ?_) #[true, true, true, true, true, true, true, true, true, true, true, true, true, false, true, false, false, true, false, true, false, false, false, false] rfl rfl (zc HT_.out (by kernel_rfl)) (fun _ _ _ h => h) (Or.inl ⟨by rfl, ?_⟩) ?_ ?_
    rotate_left
    ·intro w'
     go_simp
     with_reducible rfl
    rotate_left
    ·simp only [Act.put, List.setIfInBounds_toArray, List.set_cons_zero, List.set_cons_succ, qy, qz]
     rfl
    refine xm (i := 13) (N := (some 79)) (v := ?_) (a' := ?_) #[true, true, true, true, true, true, true, true, true, true, true, true, true, true, true, false, false, true, false, true, false, false, false, false] rfl rfl (zj HT_.out HW_.out (by kernel_rfl)) (fun _ _ _ h => h) (Or.inl ⟨by rfl, ?_⟩) hHeld ?_ ?_
    rotate_left
    ·rintro w' ⟨s0, s1⟩
     go_simp
     with_reducible rfl
    rotate_left
    ·simp only [Act.put, List.setIfInBounds_toArray, List.set_cons_zero, List.set_cons_succ, qy, qz]
     rfl
    refine xm (i := 15) (N := (some 81)) (v := ?_) (a' := ?_) #[true, true, true, true, true, true, true, true, true, true, true, true, true, true, true, true, false, true, false, true, false, false, false, false] rfl rfl (zj HT_.out HW_.out (by kernel_rfl)) (fun _ _ _ h => h) (Or.inl ⟨by rfl, ?_⟩) hHeld ?_ ?_
    rotate_left
    ·rintro w' ⟨s0, s1⟩
     go_simp
     with_reducible rfl
    rotate_left
    ·simp only [Act.put, List.setIfInBounds_toArray, List.set_cons_zero, List.set_cons_succ, qy, qz]
     rfl
    refine xm (i := 18) (N := (some 84)) (v := ?_) (a' := ?_) #[true, true, true, true, true, true, true, true, true, true, true, true, true, true, true, true, false, true, true, true, false, false, false, false] rfl rfl (zj HT_.out HW_.out (by kernel_rfl)) (fun _ _ _ h => h) (Or.inl ⟨by rfl, ?_⟩) hHeld ?_ ?_
    rotate_left
    ·rintro w' ⟨s0, s1⟩
     go_simp
     with_reducible rfl
    rotate_left
    ·simp only [Act.put, List.setIfInBounds_toArray, List.set_cons_zero, List.set_cons_succ, qy, qz]
     rfl
    refine xm (i := 20) (N := (some 86)) (v := ?_) (a' := ?_) #[true, true, true, true, true, true, true, true, true, true, true, true, true, true, true, true, false, true, true, true, true, false, false, false] rfl rfl (zj HT_.out HW_.out (by kernel_rfl)) (fun _ _ _ h => h) (Or.inl ⟨by rfl, ?_⟩) hHeld ?_ ?_
    rotate_left
    ·rintro w' ⟨s0, s1⟩
     go_simp
     with_reducible rfl
    rotate_left
    ·simp only [Act.put, List.setIfInBounds_toArray, List.set_cons_zero, List.set_cons_succ, qy, qz]
     rfl
    refine one_ (i := 16) (N := (some 82)) #[true, true, true, true, true, true, true, true, true, true, true, true, true, true, true, true, true, true, true, true, true, false, false, false] rfl rfl (kj HT_.out (by kernel_rfl)) (by decide) (fun K hK => ?_)
    refine k7 Tryd.func17 (by kernel_rfl) rfl #[.agg #[.slice An n.length cn], .agg #[.slice Am o.length cm]] (by rfl) rfl rfl (by (try simp only [List.map_toArray, List.map_cons, List.map_nil]); first | done | rfl | (simp only [List.length_drop, List.length_take]; rfl)) ?_
    refine (withinT2 _ (NAn.out.keep (KeepT.of (KeepBut.of_below HB8.out g none))).now NAn.out.cap (NAo.out.keep (KeepT.of (KeepBut.of_below HB8.out g none))).now NAo.out.cap FIn.out FIo.out R2.out).mono ?_
    rintro e_ w46 ⟨rfl, hq⟩
    refine ⟨_, rfl, ?_⟩
    replace BP := qa.mk (qt BP.out hq)
    replace HB8 := qa.mk (qj HB8.out hq)
    clear hq
    refine hK.out _ _ ⟨(qi BP.out 0).trans rfl, (qi BP.out 1).trans rfl⟩ (fun hHeld => ?_)
    clear hK K
    refine kw (a' := ?_) ?_ ?_
    rotate_left
    ·show Act.put _ (some 82) _ = _
     simp only [Act.put, List.setIfInBounds_toArray, List.set_cons_zero, List.set_cons_succ, qy, qz]
     rfl
    refine one_ (i := 21) (N := (some 87)) #[true, true, true, true, true, true, true, true, true, true, true, true, true, true, true, true, true, true, true, true, true, true, false, false] rfl rfl (kj HT_.out (by kernel_rfl)) (by decide) (fun K hK => ?_)
    refine k7 Tryd.func18 (by kernel_rfl) rfl #[.agg #[.slice An n.length cn], .agg #[.slice Am o.length cm]] (by rfl) rfl rfl (by (try simp only [List.map_toArray, List.map_cons, List.map_nil]); first | done | rfl | (simp only [List.length_drop, List.length_take]; rfl)) ?_
    refine (withinR2 _ (NAn.out.keep (KeepT.of (KeepBut.of_below HB8.out g none))).now NAn.out.cap (NAo.out.keep (KeepT.of (KeepBut.of_below HB8.out g none))).now NAo.out.cap FIn.out FIo.out R2.out).mono ?_
    rintro e_ w51 ⟨rfl, hq⟩
    refine ⟨_, rfl, ?_⟩
    replace BP := qa.mk (qt BP.out hq)
    replace HB8 := qa.mk (qj HB8.out hq)
    clear hq
    refine hK.out _ _ ⟨(qi BP.out 0).trans rfl, (qi BP.out 1).trans rfl⟩ (fun hHeld => ?_)
    clear hK K
    refine kw (a' := ?_) ?_ ?_
    rotate_left
    ·show Act.put _ (some 87) _ = _
     simp only [Act.put, List.setIfInBounds_toArray, List.set_cons_zero, List.set_cons_succ, qy, qz]
     rfl
    refine zt (i := 22) (N := (some 88)) (v := ?_) (a' := ?_) #[true, true, true, true, true, true, true, true, true, true, true, true, true, true, true, true, true, true, true, true, true, true, true, false] rfl rfl (zc HT_.out (by kernel_rfl)) (fun _ _ _ h => h) (Or.inl ⟨by rfl, ?_⟩) ?_ ?_
    rotate_left
    ·intro w'
     go_simp
     with_reducible rfl
    rotate_left
    ·simp only [Act.put, List.setIfInBounds_toArray, List.set_cons_zero, List.set_cons_succ, qy, qz]
     rfl
    refine zt (i := 23) (N := (some 89)) (v := ?_) (a' := ?_) #[true, true, true, true, true, true, true, true, true, true, true, true, true, true, true, true, true, true, true, true, true, true, true, true] rfl rfl (zc HT_.out (by kernel_rfl)) (fun _ _ _ h => h) (Or.inl ⟨by rfl, ?_⟩) ?_ ?_
    rotate_left
    ·intro w'
     go_simp
     with_reducible rfl
    rotate_left
    ·simp only [Act.put, List.setIfInBounds_toArray, List.set_cons_zero, List.set_cons_succ, qy, qz]
     rfl
    refine done_ (done_of HT_.out (by kernel_rfl)) ?_
    go_wp2
    go_roundg 3
    case measure => omega
    case rel => exact ⟨3, rfl, ⟨by omega⟩, ⟨by omega⟩, HB8⟩
   | 3, hi, hk6 =>
    obtain rfl : i = 3 := by have := hi.out; omega
    clear hi hk6
    have y0_ : wr.cell? ⟨gL, 6, none⟩ = some (.slice Am o.length cm) := (qi BLr.out 6).trans rfl
    have y1_ : wr.cell? ⟨gL, 7, none⟩ = some (.slice An n.length cn) := (qi BLr.out 7).trans rfl
    go_upto_region 11 with (fail)
    obtain ⟨gP, hgP⟩ : ∃ g_, g_ = wr.heap.size := ⟨_, rfl⟩
    obtain ⟨W9, hWW⟩ : ∃ W_, W_ = wr.alloc (Obj.cells #[Value.slice Am o.length cm, Value.slice An n.length cn] 41) := ⟨_, rfl⟩
    rw [← hWW, ← hgP]
    replace HB8 := qa.mk (show Below W8.heap.size W8 W9 by rw [hWW]; exact qc HB8.out _)
    have BP := qa.mk (show W9.heap[gP]? = some (.cells #[.slice Am o.length cm, .slice An n.length cn] 41 (0, 0)) by rw [hWW, hgP]; exact heap_alloc_new _ _)
    clear hWW hgP y0_ y1_
    obtain ⟨r1, hr1⟩ : ∃ r_, matchS o n = r_ := ⟨_, rfl⟩
    obtain ⟨r2, hr2⟩ : ∃ r_, withinS o n = r_ := ⟨_, rfl⟩
    have R1 := qa.mk hr1
    have R2 := qa.mk hr2
    clear hr1 hr2
    replace HB8 := qa.mk (qd HB8.out)
    replace BP := qa.mk (qh BP.out)
    refine start_ (n := 24) (S := fun w' => w'.cell? ⟨gP, 0, none⟩ = some (.slice Am o.length cm) ∧ w'.cell? ⟨gP, 1, none⟩ = some (.slice An n.length cn)) (ds := []) #[false, false, false, false, false, false, false, false, false, false, false, false, false, false, false, false, false, false, false, false, false, false, false, false] (by kernel_rfl) rfl rfl ⟨(qi BP.out 0).trans rfl, (qi BP.out 1).trans rfl⟩ (fun hHeld => ?_); refine k8 mat.tab11 mat.bits11 (fun HT_ HW_ => ?_)
    generalize W9.drew = w20 at BP HB8 hHeld ⊢
    refine zt (i := 0) (N := (some 66)) (v := ?_) (a' := ?_) #[true, false, false, false, false, false, false, false, false, false, false, false, false, false, false, false, false, false, false, false, false, false, false, false] rfl rfl (zc HT_.out (by kernel_rfl)) (fun _ _ _ h => h) (Or.inl ⟨by rfl, ?_⟩) ?_ ?_
    rotate_left
    ·intro w'
     go_simp
     with_reducible rfl
    rotate_left
    ·simp only [Act.put, List.setIfInBounds_toArray, List.set_cons_zero, List.set_cons_succ, qy, qz]
     rfl
    refine zt (i := 2) (N := (some 68)) (v := ?_) (a' := ?_) #[true, false, true, false, false, false, false, false, false, false, false, false, false, false, false, false, false, false, false, false, false, false, false, false] rfl rfl (zc HT_.out (by kernel_rfl)) (fun _ _ _ h => h) (Or.inl ⟨by rfl, ?_⟩) ?_ ?_
    rotate_left
    ·intro w'
     go_simp
     with_reducible rfl
    rotate_left
    ·simp only [Act.put, List.setIfInBounds_toArray, List.set_cons_zero, List.set_cons_succ, qy, qz]
     rfl
    refine zt (i := 5) (N := (some 71)) (v := ?_) (a' := ?_) #[true, false, true, false, false, true, false, false, false, false, false, false, false, false, false, false, false, false, false, false, false, false, false, false] rfl rfl (zc HT_.out (by kernel_rfl)) (fun _ _ _ h => h) (Or.inl ⟨by rfl, ?_⟩) ?_ ?_
    rotate_left
    ·intro w'
     go_simp
     with_reducible rfl
    rotate_left
    ·simp only [Act.put, List.setIfInBounds_toArray, List.set_cons_zero, List.set_cons_succ, qy, qz]
     rfl
    refine zt (i := 7) (N := (some 73)) (v := ?_) (a' := ?_) #[true, false, true, false, false, true, false, true, false, false, false, false, false, false, false, false, false, false, false, false, false, false, false, false] rfl rfl (zc HT_.out (by kernel_rfl)) (fun _ _ _ h => h) (Or.inl ⟨by rfl, ?_⟩) ?_ ?_
    rotate_left
    ·intro w'
     go_simp
     with_reducible rfl
    rotate_left
    ·simp only [Act.put, List.setIfInBounds_toArray, List.set_cons_zero, List.set_cons_succ, qy, qz]
     rfl
    refine xm (i := 1) (N := (some 67)) (v := ?_) (a' := ?_) #[true, true, true, false, false, true, false, true, false, false, false, false, false, false, false, false, false, false, false, false, false, false, false, false] rfl rfl (zj HT_.out HW_.out (by kernel_rfl)) (fun _ _ _ h => h) (Or.inl ⟨by rfl, ?_⟩) hHeld ?_ ?_
    rotate_left
    ·rintro w' ⟨s0, s1⟩
     go_simp
     with_reducible rfl
    rotate_left
    ·simp only [Act.put, List.setIfInBounds_toArray, List.set_cons_zero, List.set_cons_succ, qy, qz]
     rfl
    refine xm (i := 3) (N := (some 69)) (v := ?_) (a' := ?_) #[true, true, true, true, false, true, false, true, false, false, false, false, false, false, false, false, false, false, false, false, false, false, false, false] rfl rfl (zj HT_.out HW_.out (by kernel_rfl)) (fun _ _ _ h => h) (Or.inl ⟨by rfl, ?_⟩) hHeld ?_ ?_
    rotate_left
    ·rintro w' ⟨s0, s1⟩
     go_simp
     with_reducible rfl
    rotate_left
    ·simp only [Act.put, List.setIfInBounds_toArray, List.set_cons_zero, List.set_cons_succ, qy, qz]
     rfl
    refine xm (i := 6) (N := (some 72)) (v := ?_) (a' := ?_) #[true, true, true, true, false, true, true, true, false, false, false, false, false, false, false, false, false, false, false, false, false, false, false, false] rfl rfl (zj HT_.out HW_.out (by kernel_rfl)) (fun _ _ _ h => h) (Or.inl ⟨by rfl, ?_⟩) hHeld ?_ ?_
    rotate_left
    ·rintro w' ⟨s0, s1⟩
     go_simp
     with_reducible rfl
    rotate_left
    ·simp only [Act.put, List.setIfInBounds_toArray, List.set_cons_zero, List.set_cons_succ, qy, qz]
     rfl
    refine xm (i := 8) (N := (some 74)) (v := ?_) (a' := ?_) #[true, true, true, true, false, true, true, true, true, false, false, false, false, false, false, false, false, false, false, false, false, false, false, false] rfl rfl (zj HT_.out HW_.out (by kernel_rfl)) (fun _ _ _ h => h) (Or.inl ⟨by rfl, ?_⟩) hHeld ?_ ?_
    rotate_left
    ·rintro w' ⟨s0, s1⟩
     go_simp
     with_reducible rfl
    rotate_left
    ·simp only [Act.put, List.setIfInBounds_toArray, List.set_cons_zero, List.set_cons_succ, qy, qz]
     rfl
    refine one_ (i := 4) (N := (some 70)) #[true, true, true, true, true, true, true, true, true, false, false, false, false, false, false, false, false, false, false, false, false, false, false, false] rfl rfl (kj HT_.out (by kernel_rfl)) (by decide) (fun K hK => ?_)
    refine k7 Tryd.func15 (by kernel_rfl) rfl #[.agg #[.slice Am o.length cm], .agg #[.slice An n.length cn]] (by rfl) rfl rfl (by (try simp only [List.map_toArray, List.map_cons, List.map_nil]); first | done | rfl | (simp only [List.length_drop, List.length_take]; rfl)) ?_
    refine (matchT2 _ (NAo.out.keep (KeepT.of (KeepBut.of_below HB8.out g none))).now NAo.out.cap (NAn.out.keep (KeepT.of (KeepBut.of_below HB8.out g none))).now NAn.out.cap FIo.out FIn.out R1.out).mono ?_
    rintro e_ w34 ⟨rfl, hq⟩
    refine ⟨_, rfl, ?_⟩
    replace BP := qa.mk (qt BP.out hq)
    replace HB8 := qa.mk (qj HB8.out hq)
    clear hq
    refine hK.out _ _ ⟨(qi BP.out 0).trans rfl, (qi BP.out 1).trans rfl⟩ (fun hHeld => ?_)
    clear hK K
    refine kw (a' := ?_) ?_ ?_
    rotate_left
    ·show Act.put _ (some 70) _ = _
     simp only [Act.put, List.setIfInBounds_toArray, List.set_cons_zero, List.set_cons_succ, qy, qz]
     rfl
    refine one_ (i := 9) (N := (some 75)) #[true, true, true, true, true, true, true, true, true, true, false, false, false, false, false, false, false, false, false, false, false, false, false, false] rfl rfl (kj HT_.out (by kernel_rfl)) (by decide) (fun K hK => ?_)
    refine k7 Tryd.func16 (by kernel_rfl) rfl #[.agg #[.slice Am o.length cm], .agg #[.slice An n.length cn]] (by rfl) rfl rfl (by (try simp only [List.map_toArray, List.map_cons, List.map_nil]); first | done | rfl | (simp only [List.length_drop, List.length_take]; rfl)) ?_
    refine (matchR2 _ (NAo.out.keep (KeepT.of (KeepBut.of_below HB8.out g none))).now NAo.out.cap (NAn.out.keep (KeepT.of (KeepBut.of_below HB8.out g none))).now NAn.out.cap FIo.out FIn.out R1.out).mono ?_
    rintro e_ w39 ⟨rfl, hq⟩
    refine ⟨_, rfl, ?_⟩
    replace BP := qa.mk (qt BP.out hq)
    replace HB8 := qa.mk (qj HB8.out hq)
    clear hq
    refine hK.out _ _ ⟨(qi BP.out 0).trans rfl, (qi BP.out 1).trans rfl⟩ (fun hHeld => ?_)
    clear hK K
    refine kw (a' := ?_) ?_ ?_
    rotate_left
    ·show Act.put _ (some 75) _ = _
     simp only [Act.put, List.setIfInBounds_toArray, List.set_cons_zero, List.set_cons_succ, qy, qz]
     rfl
    refine zt (i := 10) (N := (some 76)) (v := ?_) (a' := ?_) #[true, true, true, true, true, true, true, true, true, true, true, false, false, false, false, false, false, false, false, false, false, false, false, false] rfl rfl (zc HT_.out (by kernel_rfl)) (fun _ _ _ h => h) (Or.inl ⟨by rfl, ?_⟩) ?_ ?_
    rotate_left
    ·intro w'
     go_simp
     with_reducible rfl
    rotate_left
    ·simp only [Act.put, List.setIfInBounds_toArray, List.set_cons_zero, List.set_cons_succ, qy, qz]
     rfl
    refine zt (i := 11) (N := (some 77)) (v := ?_) (a' := ?_) #[true, true, true, true, true, true, true, true, true, true, true, true, false, false, false, false, false, false, false, false, false, false, false, false] rfl rfl (zc HT_.out (by kernel_rfl)) (fun _ _ _ h => h) (Or.inl ⟨by rfl, ?_⟩) ?_ ?_
    rotate_left
    ·intro w'
     go_simp
     with_reducible rfl
    rotate_left
    ·simp only [Act.put, List.setIfInBounds_toArray, List.set_cons_zero, List.set_cons_succ, qy, qz]
     rfl
    refine zt (i := 12) (N := (some 78)) (v := ?_) (a' := ?_) #[true, true, true, true, true, true, true, true, true, true, true, true, true, false, false, false, false, false, false, false, false, false, false, false] rfl rfl (zc HT_.out (by kernel_rfl)) (fun _ _ _ h => h) (Or.inl ⟨by rfl, ?_⟩) ?_ ?_
    rotate_left
    ·intro w'
     go_simp
     with_reducible rfl
    rotate_left
    ·simp only [Act.put, List.setIfInBounds_toArray, List.set_cons_zero, List.set_cons_succ, qy, qz]
     rfl
    refine zt (i := 14) (N := (some 80)) (v := ?_) (a' := ?_) #[true, true, true, true, true, true, true, true, true, true, true, true, true, false, true, false, false, false, false, false, false, false, false, false] rfl rfl (zc HT_.out (by kernel_rfl)) (fun _ _ _ h => h) (Or.inl ⟨by rfl, ?_⟩) ?_ ?_
    rotate_left
    ·intro w'
     go_simp
     with_reducible rfl
    rotate_left
    ·simp only [Act.put, List.setIfInBounds_toArray, List.set_cons_zero, List.set_cons_succ, qy, qz]
     rfl
    refine zt (i := 17) (N := (some 83)) (v := ?_) (a' := ?_) #[true, true, true, true, true, true, true, true, true, true, true, true, true, false, true, false, false, true, false, false, false, false, false, false] rfl rfl (zc HT_.out (by kernel_rfl)) (fun _ _ _ h => h) (Or.inl ⟨by rfl, ?_⟩) ?_ ?_
    rotate_left
    ·intro w'
     go_simp
     with_reducible rfl
    rotate_left
    ·simp only [Act.put, List.setIfInBounds_toArray, List.set_cons_zero, List.set_cons_succ, qy, qz]
     rfl
    refine zt (i := 19) (N := (some 85)) (v := ?_) (a' := ?_) #[true, true, true, true, true, true, true, true, true, true, true, true, true, false, true, false, false, true, false, true, false, false, false, false] rfl rfl (zc HT_.out (by kernel_rfl)) (fun _ _ _ h => h) (Or.inl ⟨by rfl, ?_⟩) ?_ ?_
    rotate_left
    ·intro w'
     go_simp
     with_reducible rfl
    rotate_left
    ·simp only [Act.put, List.setIfInBounds_toArray, List.set_cons_zero, List.set_cons_succ, qy, qz]
     rfl
    refine xm (i := 13) (N := (some 79)) (v := ?_) (a' := ?_) #[true, true, true, true, true, true, true, true, true, true, true, true, true, true, true, false, false, true, false, true, false, false, false, false] rfl rfl (zj HT_.out HW_.out (by kernel_rfl)) (fun _ _ _ h => h) (Or.inl ⟨by rfl, ?_⟩) hHeld ?_ ?_
    rotate_left
    ·rintro w' ⟨s0, s1⟩
     go_simp
     with_reducible rfl
    rotate_left
    ·simp only [Act.put, List.setIfInBounds_toArray, List.set_cons_zero, List.set_cons_succ, qy, qz]
     rfl
    refine xm (i := 15) (N := (some 81)) (v := ?_) (a' := ?_) #[true, true, true, true, true, true, true, true, true, true, true, true, true, true, true, true, false, true, false, true, false, false, false, false] rfl rfl (zj HT_.out HW_.out (by kernel_rfl)) (fun _ _ _ h => h) (Or.inl ⟨by rfl, ?_⟩) hHeld ?_ ?_
    rotate_left
    ·rintro w' ⟨s0, s1⟩
     go_simp
     with_reducible rfl
    rotate_left
    ·simp only [Act.put, List.setIfInBounds_toArray, List.set_cons_zero, List.set_cons_succ, qy, qz]
     rfl
    refine xm (i := 18) (N := (some 84)) (v := ?_) (a' := ?_) #[true, true, true, true, true, true, true, true, true, true, true, true, true, true, true, true, false, true, true, true, false, false, false, false] rfl rfl (zj HT_.out HW_.out (by kernel_rfl)) (fun _ _ _ h => h) (Or.inl ⟨by rfl, ?_⟩) hHeld ?_ ?_
    rotate_left
    ·rintro w' ⟨s0, s1⟩
     go_simp
     with_reducible rfl
    rotate_left
    ·simp only [Act.put, List.setIfInBounds_toArray, List.set_cons_zero, List.set_cons_succ, qy, qz]
     rfl
    refine xm (i := 20) (N := (some 86)) (v := ?_) (a' := ?_) #[true, true, true, true, true, true, true, true, true, true, true, true, true, true, true, true, false, true, true, true, true, false, false, false] rfl rfl (zj HT_.out HW_.out (by kernel_rfl)) (fun _ _ _ h => h) (Or.inl ⟨by rfl, ?_⟩) hHeld ?_ ?_
    rotate_left
    ·rintro w' ⟨s0, s1⟩
     go_simp
     with_reducible rfl
    rotate_left
    ·simp only [Act.put, List.setIfInBounds_toArray, List.set_cons_zero, List.set_cons_succ, qy, qz]
     rfl
    refine one_ (i := 16) (N := (some 82)) #[true, true, true, true, true, true, true, true, true, true, true, true, true, true, true, true, true, true, true, true, true, false, false, false] rfl rfl (kj HT_.out (by kernel_rfl)) (by decide) (fun K hK => ?_)
    refine k7 Tryd.func17 (by kernel_rfl) rfl #[.agg #[.slice Am o.length cm], .agg #[.slice An n.length cn]] (by rfl) rfl rfl (by (try simp only [List.map_toArray, List.map_cons, List.map_nil]); first | done | rfl | (simp only [List.length_drop, List.length_take]; rfl)) ?_
    refine (withinT2 _ (NAo.out.keep (KeepT.of (KeepBut.of_below HB8.out g none))).now NAo.out.cap (NAn.out.keep (KeepT.of (KeepBut.of_below HB8.out g none))).now NAn.out.cap FIo.out FIn.out R2.out).mono ?_
    rintro e_ w46 ⟨rfl, hq⟩
    refine ⟨_, rfl, ?_⟩
    replace BP := qa.mk (qt BP.out hq)
    replace HB8 := qa.mk (qj HB8.out hq)
    clear hq
    refine hK.out _ _ ⟨(qi BP.out 0).trans rfl, (qi BP.out 1).trans rfl⟩ (fun hHeld => ?_)
    clear hK K
    refine kw (a' := ?_) ?_ ?_
    rotate_left
    ·show Act.put _ (some 82) _ = _
     simp only [Act.put, List.setIfInBounds_toArray, List.set_cons_zero, List.set_cons_succ, qy, qz]
     rfl
    refine one_ (i := 21) (N := (some 87)) #[true, true, true, true, true, true, true, true, true, true, true, true, true, true, true, true, true, true, true, true, true, true, false, false] rfl rfl (kj HT_.out (by kernel_rfl)) (by decide) (fun K hK => ?_)
    refine k7 Tryd.func18 (by kernel_rfl) rfl #[.agg #[.slice Am o.length cm], .agg #[.slice An n.length cn]] (by rfl) rfl rfl (by (try simp only [List.map_toArray, List.map_cons, List.map_nil]); first | done | rfl | (simp only [List.length_drop, List.length_take]; rfl)) ?_
    refine (withinR2 _ (NAo.out.keep (KeepT.of (KeepBut.of_below HB8.out g none))).now NAo.out.cap (NAn.out.keep (KeepT.of (KeepBut.of_below HB8.out g none))).now NAn.out.cap FIo.out FIn.out R2.out).mono ?_
    rintro e_ w51 ⟨rfl, hq⟩
    refine ⟨_, rfl, ?_⟩
    replace BP := qa.mk (qt BP.out hq)
    replace HB8 := qa.mk (qj HB8.out hq)
    clear hq
    refine hK.out _ _ ⟨(qi BP.out 0).trans rfl, (qi BP.out 1).trans rfl⟩ (fun hHeld => ?_)
    clear hK K
    refine kw (a' := ?_) ?_ ?_
    rotate_left
    ·show Act.put _ (some 87) _ = _
     simp only [Act.put, List.setIfInBounds_toArray, List.set_cons_zero, List.set_cons_succ, qy, qz]
     rfl
    refine zt (i := 22) (N := (some 88)) (v := ?_) (a' := ?_) #[true, true, true, true, true, true, true, true, true, true, true, true, true, true, true, true, true, true, true, true, true, true, true, false] rfl rfl (zc HT_.out (by kernel_rfl)) (fun _ _ _ h => h) (Or.inl ⟨by rfl, ?_⟩) ?_ ?_
    rotate_left
    ·intro w'
     go_simp
     with_reducible rfl
    rotate_left
    ·simp only [Act.put, List.setIfInBounds_toArray, List.set_cons_zero, List.set_cons_succ, qy, qz]
     rfl
    refine zt (i := 23) (N := (some 89)) (v := ?_) (a' := ?_) #[true, true, true, true, true, true, true, true, true, true, true, true, true, true, true, true, true, true, true, true, true, true, true, true] rfl rfl (zc HT_.out (by kernel_rfl)) (fun _ _ _ h => h) (Or.inl ⟨by rfl, ?_⟩) ?_ ?_
    rotate_left
    ·intro w'
     go_simp
     with_reducible rfl
    rotate_left
    ·simp only [Act.put, List.setIfInBounds_toArray, List.set_cons_zero, List.set_cons_succ, qy, qz]
     rfl
    refine done_ (done_of HT_.out (by kernel_rfl)) ?_
    go_wp2
    go_roundg 2
    case measure => omega
    case rel => exact ⟨4, rfl, ⟨by omega⟩, ⟨by omega⟩, HB8⟩
   | 2, hi, hk6 =>
    obtain rfl : i = 4 := by have := hi.out; omega
    clear hi hk6
    have y0_ : wr.cell? ⟨gL, 8, none⟩ = some (.slice An n.length cn) := (qi BLr.out 8).trans rfl
    have y1_ : wr.cell? ⟨gL, 9, none⟩ = some (.slice Ap p.length cp) := (qi BLr.out 9).trans rfl
    go_upto_region 11 with (fail)
    obtain ⟨gP, hgP⟩ : ∃ g_, g_ = wr.heap.size := ⟨_, rfl⟩
    obtain ⟨W9, hWW⟩ : ∃ W_, W_ = wr.alloc (Obj.cells #[Value.slice An n.length cn, Value.slice Ap p.length cp] 41) := ⟨_, rfl⟩
    rw [← hWW, ← hgP]
    replace HB8 := qa.mk (show Below W8.heap.size W8 W9 by rw [hWW]; exact qc HB8.out _)
    have BP := qa.mk (show W9.heap[gP]? = some (.cells #[.slice An n.length cn, .slice Ap p.length cp] 41 (0, 0)) by rw [hWW, hgP]; exact heap_alloc_new _ _)
    clear hWW hgP y0_ y1_
    obtain ⟨r1, hr1⟩ : ∃ r_, matchS n p = r_ := ⟨_, rfl⟩
    obtain ⟨r2, hr2⟩ : ∃ r_, withinS n p = r_ := ⟨_, rfl⟩
    have R1 := qa.mk hr1
    have R2 := qa.mk hr2
    clear hr1 hr2
    replace HB8 := qa.mk (qd HB8.out)
    replace BP := qa.mk (qh BP.out)
    refine start_ (n := 24) (S := fun w' => w'.cell? ⟨gP, 0, none⟩ = some (.slice An n.length cn) ∧ w'.cell? ⟨gP, 1, none⟩ = some (.slice Ap p.length cp)) (ds := []) #[false, false, false, false, false, false, false, false, false, false, false, false, false, false, false, false, false, false, false, false, false, false, false, false] (by kernel_rfl) rfl rfl ⟨(qi BP.out 0).trans rfl, (qi BP.out 1).trans rfl⟩ (fun hHeld => ?_); refine k8 mat.tab11 mat.bits11 (fun HT_ HW_ => ?_)
    generalize W9.drew = w20 at BP HB8 hHeld ⊢
    refine zt (i := 0) (N := (some 66)) (v := ?_) (a' := ?_) #[true, false, false, false, false, false, false, false, false, false, false, false, false, false, false, false, false, false, false, false, false, false, false, false] rfl rfl (zc HT_.out (by kernel_rfl)) (fun _ _ _ h => h) (Or.inl ⟨by rfl, ?_⟩) ?_ ?_
    rotate_left
    ·intro w'
     go_simp
     with_reducible rfl
    rotate_left
    ·simp only [Act.put, List.setIfInBounds_toArray, List.set_cons_zero, List.set_cons_succ, qy, qz]
     rfl
    refine zt (i := 2) (N := (some 68)) (v := ?_) (a' := ?_) #[true, false, true, false, false, false, false, false, false, false, false, false, false, false, false, false, false, false, false, false, false, false, false, false] rfl rfl (zc HT_.out (by kernel_rfl)) (fun _ _ _ h => h) (Or.inl ⟨by rfl, ?_⟩) ?_ ?_
    rotate_left
    ·intro w'
     go_simp
     with_reducible rfl
    rotate_left
    ·simp only [Act.put, List.setIfInBounds_toArray, List.set_cons_zero, List.set_cons_succ, qy, qz]
     rfl
    refine zt (i := 5) (N := (some 71)) (v := ?_) (a' := ?_) #[true, false, true, false, false, true, false, false, false, false, false, false, false, false, false, false, false, false, false, false, false, false, false, false] rfl rfl (zc HT_.out (by kernel_rfl)) (fun _ _ _ h => h) (Or.inl ⟨by rfl, ?_⟩) ?_ ?_
    rotate_left
    ·intro w'
     go_simp
     with_reducible rfl
    rotate_left
    ·simp only [Act.put, List.setIfInBounds_toArray, List.set_cons_zero, List.set_cons_succ, qy, qz]
     rfl
    refine zt (i := 7) (N := (some 73)) (v := ?_) (a' := ?_) #[true, false, true, false, false, true, false, true, false, false, false, false, false, false, false, false, false, false, false, false, false, false, false, false] rfl rfl (zc HT_.out (by kernel_rfl)) (fun _ _ _ h => h) (Or.inl ⟨by rfl, ?_⟩) ?_ ?_
    rotate_left
    ·intro w'
     go_simp
     with_reducible rfl
    rotate_left
    ·simp only [Act.put, List.setIfInBounds_toArray, List.set_cons_zero, List.set_cons_succ, qy, qz]
     rfl
    refine xm (i := 1) (N := (some 67)) (v := ?_) (a' := ?_) #[true, true, true, false, false, true, false, true, false, false, false, false, false, false, false, false, false, false, false, false, false, false, false, false] rfl rfl (zj HT_.out HW_.out (by kernel_rfl)) (fun _ _ _ h => h) (Or.inl ⟨by rfl, ?_⟩) hHeld ?_ ?_
    rotate_left
    ·rintro w' ⟨s0, s1⟩
     go_simp
     with_reducible rfl
    rotate_left
    ·simp only [Act.put, List.setIfInBounds_toArray, List.set_cons_zero, List.set_cons_succ, qy, qz]
     rfl
    refine xm (i := 3) (N := (some 69)) (v := ?_) (a' := ?_) #[true, true, true, true, false, true, false, true, false, false, false, false, false, false, false, false, false, false, false, false, false, false, false, false] rfl rfl (zj HT_.out HW_.out (by kernel_rfl)) (fun _ _ _ h => h) (Or.inl ⟨by rfl, ?_⟩) hHeld ?_ ?_
    rotate_left
    ·rintro w' ⟨s0, s1⟩
     go_simp
     with_reducible rfl
    rotate_left
    ·simp only [Act.put, List.setIfInBounds_toArray, List.set_cons_zero, List.set_cons_succ, qy, qz]
     rfl
    refine xm (i := 6) (N := (some 72)) (v := ?_) (a' := ?_) #[true, true, true, true, false, true, true, true, false, false, false, false, false, false, false, false, false, false, false, false, false, false, false, false] rfl rfl (zj HT_.out HW_.out (by kernel_rfl)) (fun _ _ _ h => h) (Or.inl ⟨by rfl, ?_⟩) hHeld ?_ ?_
    rotate_left
    ·rintro w' ⟨s0, s1⟩
     go_simp
     with_reducible rfl
    rotate_left
    ·simp only [Act.put, List.setIfInBounds_toArray, List.set_cons_zero, List.set_cons_succ, qy, qz]
     rfl
    refine xm (i := 8) (N := (some 74)) (v := ?_) (a' := ?_) #[true, true, true, true, false, true, true, true, true, false, false, false, false, false, false, false, false, false, false, false, false, false, false, false] rfl rfl (zj HT_.out HW_.out (by kernel_rfl)) (fun _ _ _ h => h) (Or.inl ⟨by rfl, ?_⟩) hHeld ?_ ?_
    rotate_left
    ·rintro w' ⟨s0, s1⟩
     go_simp
     with_reducible rfl
    rotate_left
    ·simp only [Act.put, List.setIfInBounds_toArray, List.set_cons_zero, List.set_cons_succ, qy, qz]
     rfl
    refine one_ (i := 4) (N := (some 70)) #[true, true, true, true, true, true, true, true, true, false, false, false, false, false, false, false, false, false, false, false, false, false, false, false] rfl rfl (kj HT_.out (by kernel_rfl)) (by decide) (fun K hK => ?_)
    refine k7 Tryd.func15 (by kernel_rfl) rfl #[.agg #[.slice An n.length cn], .agg #[.slice Ap p.length cp]] (by rfl) rfl rfl (by (try simp only [List.map_toArray, List.map_cons, List.map_nil]); first | done | rfl | (simp only [List.length_drop, List.length_take]; rfl)) ?_
    refine (matchT2 _ (NAn.out.keep (KeepT.of (KeepBut.of_below HB8.out g none))).now NAn.out.cap (NAp.out.keep (KeepT.of (KeepBut.of_below HB8.out g none))).now NAp.out.cap FIn.out FIp.out R1.out).mono ?_
    rintro e_ w34 ⟨rfl, hq⟩
    refine ⟨_, rfl, ?_⟩
    replace BP := qa.mk (qt BP.out hq)
    replace HB8 := qa.mk (qj HB8.out hq)
    clear hq
    refine hK.out _ _ ⟨(qi BP.out 0).trans rfl, (qi BP.out 1).trans rfl⟩ (fun hHeld => ?_)
    clear hK K
    refine kw (a' := ?_) ?_ ?_
    rotate_left
    ·show Act.put _ (some 70) _ = _
     simp only [Act.put, List.setIfInBounds_toArray, List.set_cons_zero, List.set_cons_succ, qy, qz]
     rfl
    refine one_ (i := 9) (N := (some 75)) #[true, true, true, true, true, true, true, true, true, true, false, false, false, false, false, false, false, false, false, false, false, false, false, false] rfl rfl (kj HT_.out (by kernel_rfl)) (by decide) (fun K hK => ?_)
    refine k7 Tryd.func16 (by kernel_rfl) rfl #[.agg #[.slice An n.length cn], .agg #[.slice Ap p.length cp]] (by rfl) rfl rfl (by (try simp only [List.map_toArray, List.map_cons, List.map_nil]); first | done | rfl | (simp only [List.length_drop, List.length_take]; rfl)) ?_
    refine (matchR2 _ (NAn.out.keep (KeepT.of (KeepBut.of_below HB8.out g none))).now NAn.out.cap (NAp.out.keep (KeepT.of (KeepBut.of_below HB8.out g none))).now NAp.out.cap FIn.out FIp.out R1.out).mono ?_
    rintro e_ w39 ⟨rfl, hq⟩
    refine ⟨_, rfl, ?_⟩
    replace BP := qa.mk (qt BP.out hq)
    replace HB8 := qa.mk (qj HB8.out hq)
    clear hq
    refine hK.out _ _ ⟨(qi BP.out 0).trans rfl, (qi BP.out 1).trans rfl⟩ (fun hHeld => ?_)
    clear hK K
    refine kw (a' := ?_) ?_ ?_
    rotate_left
    ·show Act.put _ (some 75) _ = _
     simp only [Act.put, List.setIfInBounds_toArray, List.set_cons_zero, List.set_cons_succ, qy, qz]
     rfl
    refine zt (i := 10) (N := (some 76)) (v := ?_) (a' := ?_) #[true, true, true, true, true, true, true, true, true, true, true, false, false, false, false, false, false, false, false, false, false, false, false, false] rfl rfl (zc HT_.out (by kernel_rfl)) (fun _ _ _ h => h) (Or.inl ⟨by rfl, ?_⟩) ?_ ?_
    rotate_left
    ·intro w'
     go_simp
     with_reducible rfl
    rotate_left
    ·simp only [Act.put, List.setIfInBounds_toArray, List.set_cons_zero, List.set_cons_succ, qy, qz]
     rfl
    refine zt (i := 11) (N := (some 77)) (v := ?_) (a' := ?_) #[true, true, true, true, true, true, true, true, true, true, true, true, false, false, false, false, false, false, false, false, false, false, false, false] rfl rfl (zc HT_.out (by kernel_rfl)) (fun _ _ _ h => h) (Or.inl ⟨by rfl, ?_⟩) ?_ ?_
    rotate_left
    ·intro w'
     go_simp
     with_reducible rfl
    rotate_left
    ·simp only [Act.put, List.setIfInBounds_toArray, List.set_cons_zero, List.set_cons_succ, qy, qz]
     rfl
    refine zt (i := 12) (N := (some 78)) (v := ?_) (a' := ?_) #[true, true, true, true, true, true, true, true, true, true, true, true, true, false, false, false, false, false, false, false, false, false, false, false] rfl rfl (zc HT_.out (by kernel_rfl)) (fun _ _ _ h => h) (Or.inl ⟨by rfl, ?_⟩) ?_ ?_
    rotate_left
    ·intro w'
     go_simp
     with_reducible rfl
    rotate_left
    ·simp only [Act.put, List.setIfInBounds_toArray, List.set_cons_zero, List.set_cons_succ, qy, qz]
     rfl
    refine zt (i := 14) (N := (some 80)) (v := ?_) (a' := ?_) #[true, true, true, true, true, true, true, true, true, true, true, true, true, false, true, false, false, false, false, false, false, false, false, false] rfl rfl (zc HT_.out (by kernel_rfl)) (fun _ _ _ h => h) (Or.inl ⟨by rfl, ?_⟩) ?_ ?_
    rotate_left
    ·intro w'
     go_simp
     with_reducible rfl
    rotate_left
    ·simp only [Act.put, List.setIfInBounds_toArray, List.set_cons_zero, List.set_cons_succ, qy, qz]
     rfl
    refine zt (i := 17) (N := (some 83)) (v := ?_) (a' := ?_) #[true, true, true, true, true, true, true, true, true, true, true, true, true, false, true, false, false, true, false, false, false, false, false, false] rfl rfl (zc HT_.out (by kernel_rfl)) (fun _ _ _ h => h) (Or.inl ⟨by rfl, ?_⟩) ?_ ?_
    rotate_left
    ·intro w'
     go_simp
     with_reducible rfl
    rotate_left
    ·simp only [Act.put, List.setIfInBounds_toArray, List.set_cons_zero, List.set_cons_succ, qy, qz]
     rfl
    refine zt (i := 19) (N := (some 85)) (v := ?_) (a' := ?_) #[true, true, true, true, true, true, true, true, true, true, true, true, true, false, true, false, false, true, false, true, false, false, false, false] rfl rfl (zc HT_.out (by kernel_rfl)) (fun _ _ _ h => h) (Or.inl ⟨by rfl, ?_⟩) ?_ ?_
    rotate_left
    ·intro w'
     go_simp
     with_reducible rfl
    rotate_left
    ·simp only [Act.put, List.setIfInBounds_toArray, List.set_cons_zero, List.set_cons_succ, qy, qz]
     rfl
    refine xm (i := 13) (N := (some 79)) (v := ?_) (a' := ?_) #[true, true, true, true, true, true, true, true, true, true, true, true, true, true, true, false, false, true, false, true, false, false, false, false] rfl rfl (zj HT_.out HW_.out (by kernel_rfl)) (fun _ _ _ h => h) (Or.inl ⟨by rfl, ?_⟩) hHeld ?_ ?_
    rotate_left
    ·rintro w' ⟨s0, s1⟩
     go_simp
     with_reducible rfl
    rotate_left
    ·simp only [Act.put, List.setIfInBounds_toArray, List.set_cons_zero, List.set_cons_succ, qy, qz]
     rfl
    refine xm (i := 15) (N := (some 81)) (v := ?_) (a' := ?_) #[true, true, true, true, true, true, true, true, true, true, true, true, true, true, true, true, false, true, false, true, false, false, false, false] rfl rfl (zj HT_.out HW_.out (by kernel_rfl)) (fun _ _ _ h => h) (Or.inl ⟨by rfl, ?_⟩) hHeld ?_ ?_
    rotate_left
    ·rintro w' ⟨s0, s1⟩
     go_simp
     with_reducible rfl
    rotate_left
    ·simp only [Act.put, List.setIfInBounds_toArray, List.set_cons_zero, List.set_cons_succ, qy, qz]
     rfl
    refine xm (i := 18) (N := (some 84)) (v := ?_) (a' := ?_) #[true, true, true, true, true, true, true, true, true, true, true, true, true, true, true, true, false, true, true, true, false, false, false, false] rfl rfl (zj HT_.out HW_.out (by kernel_rfl)) (fun _ _ _ h => h) (Or.inl ⟨by rfl, ?_⟩) hHeld ?_ ?_
    rotate_left
    ·rintro w' ⟨s0, s1⟩
     go_simp
     with_reducible rfl
    rotate_left
    ·simp only [Act.put, List.setIfInBounds_toArray, List.set_cons_zero, List.set_cons_succ, qy, qz]
     rfl
    refine xm (i := 20) (N := (some 86)) (v := ?_) (a' := ?_) #[true, true, true, true, true, true, true, true, true, true, true, true, true, true, true, true, false, true, true, true, true, false, false, false] rfl rfl (zj HT_.out HW_.out (by kernel_rfl)) (fun _ _ _ h => h) (Or.inl ⟨by rfl, ?_⟩) hHeld ?_ ?_
    rotate_left
    ·rintro w' ⟨s0, s1⟩
     go_simp
     with_reducible rfl
    rotate_left
    ·simp only [Act.put, List.setIfInBounds_toArray, List.set_cons_zero, List.set_cons_succ, qy, qz]
     rfl
    refine one_ (i := 16) (N := (some 82)) #[true, true, true, true, true, true, true, true, true, true, true, true, true, true, true, true, true, true, true, true, true, false, false, false] rfl rfl (kj HT_.out (by kernel_rfl)) (by decide) (fun K hK => ?_)
    refine k7 Tryd.func17 (by kernel_rfl) rfl #[.agg #[.slice An n.length cn], .agg #[.slice Ap p.length cp]] (by rfl) rfl rfl (by (try simp only [List.map_toArray, List.map_cons, List.map_nil]); first | done | rfl | (simp only [List.length_drop, List.length_take]; rfl)) ?_
    refine (withinT2 _ (NAn.out.keep (KeepT.of (KeepBut.of_below HB8.out g none))).now NAn.out.cap (NAp.out.keep (KeepT.of (KeepBut.of_below HB8.out g none))).now NAp.out.cap FIn.out FIp.out R2.out).mono ?_
    rintro e_ w46 ⟨rfl, hq⟩
    refine ⟨_, rfl, ?_⟩
    replace BP := qa.mk (qt BP.out hq)
    replace HB8 := qa.mk (qj HB8.out hq)
    clear hq
    refine hK.out _ _ ⟨(qi BP.out 0).trans rfl, (qi BP.out 1).trans rfl⟩ (fun hHeld => ?_)
    clear hK K
    refine kw (a' := ?_) ?_ ?_
    rotate_left
    ·show Act.put _ (some 82) _ = _
     simp only [Act.put, List.setIfInBounds_toArray, List.set_cons_zero, List.set_cons_succ, qy, qz]
     rfl
    refine one_ (i := 21) (N := (some 87)) #[true, true, true, true, true, true, true, true, true, true, true, true, true, true, true, true, true, true, true, true, true, true, false, false] rfl rfl (kj HT_.out (by kernel_rfl)) (by decide) (fun K hK => ?_)
    refine k7 Tryd.func18 (by kernel_rfl) rfl #[.agg #[.slice An n.length cn], .agg #[.slice Ap p.length cp]] (by rfl) rfl rfl (by (try simp only [List.map_toArray, List.map_cons, List.map_nil]); first | done | rfl | (simp only [List.length_drop, List.length_take]; rfl)) ?_
    refine (withinR2 _ (NAn.out.keep (KeepT.of (KeepBut.of_below HB8.out g none))).now NAn.out.cap (NAp.out.keep (KeepT.of (KeepBut.of_below HB8.out g none))).now NAp.out.cap FIn.out FIp.out R2.out).mono ?_
    rintro e_ w51 ⟨rfl, hq⟩
    refine ⟨_, rfl, ?_⟩
    replace BP := qa.mk (qt BP.out hq)
    replace HB8 := qa.mk (qj HB8.out hq)
    clear hq
    refine hK.out _ _ ⟨(qi BP.out 0).trans rfl, (qi BP.out 1).trans rfl⟩ (fun hHeld => ?_)
    clear hK K
    refine kw (a' := ?_) ?_ ?_
    rotate_left
    ·show Act.put _ (some 87) _ = _
     simp only [Act.put, List.setIfInBounds_toArray, List.set_cons_zero, List.set_cons_succ, qy, qz]
     rfl
    refine zt (i := 22) (N := (some 88)) (v := ?_) (a' := ?_) #[true, true, true, true, true, true, true, true, true, true, true, true, true, true, true, true, true, true, true, true, true, true, true, false] rfl rfl (zc HT_.out (by kernel_rfl)) (fun _ _ _ h => h) (Or.inl ⟨by rfl, ?_⟩) ?_ ?_
    rotate_left
    ·intro w'
     go_simp
     with_reducible rfl
    rotate_left
    ·simp only [Act.put, List.setIfInBounds_toArray, List.set_cons_zero, List.set_cons_succ, qy, qz]
     rfl
    refine zt (i := 23) (N := (some 89)) (v := ?_) (a' := ?_) #[true, true, true, true, true, true, true, true, true, true, true, true, true, true, true, true, true, true, true, true, true, true, true, true] rfl rfl (zc HT_.out (by kernel_rfl)) (fun _ _ _ h => h) (Or.inl ⟨by rfl, ?_⟩) ?_ ?_
    rotate_left
    ·intro w'
     go_simp
     with_reducible rfl
    rotate_left
    ·simp only [Act.put, List.setIfInBounds_toArray, List.set_cons_zero, List.set_cons_succ, qy, qz]
     rfl
    refine done_ (done_of HT_.out (by kernel_rfl)) ?_
    go_wp2
    go_roundg 1
    case measure => omega
    case rel => exact ⟨5, rfl, ⟨by omega⟩, ⟨by omega⟩, HB8⟩
   | 1, hi, hk6 =>
    obtain rfl : i = 5 := by have := hi.out; omega
    clear hi hk6
    have y0_ : wr.cell? ⟨gL, 10, none⟩ = some (.slice Aa a.length ca) := (qi BLr.out 10).trans rfl
    have y1_ : wr.cell? ⟨gL, 11, none⟩ = some (.slice An n.length cn) := (qi BLr.out 11).trans rfl
    go_upto_region 11 with (fail)
    obtain ⟨gP, hgP⟩ : ∃ g_, g_ = wr.heap.size := ⟨_, rfl⟩
    obtain ⟨W9, hWW⟩ : ∃ W_, W_ = wr.alloc (Obj.cells #[Value.slice Aa a.length ca, Value.slice An n.length cn] 41) := ⟨_, rfl⟩
    rw [← hWW, ← hgP]
    replace HB8 := qa.mk (show Below W8.heap.size W8 W9 by rw [hWW]; exact qc HB8.out _)
    have BP := qa.mk (show W9.heap[gP]? = some (.cells #[.slice Aa a.length ca, .slice An n.length cn] 41 (0, 0)) by rw [hWW, hgP]; exact heap_alloc_new _ _)
    clear hWW hgP y0_ y1_
    obtain ⟨r1, hr1⟩ : ∃ r_, matchS a n = r_ := ⟨_, rfl⟩
    obtain ⟨r2, hr2⟩ : ∃ r_, withinS a n = r_ := ⟨_, rfl⟩
    have R1 := qa.mk hr1
    have R2 := qa.mk hr2
    clear hr1 hr2
    replace HB8 := qa.mk (qd HB8.out)
    replace BP := qa.mk (qh BP.out)
    refine start_ (n := 24) (S := fun w' => w'.cell? ⟨gP, 0, none⟩ = some (.slice Aa a.length ca) ∧ w'.cell? ⟨gP, 1, none⟩ = some (.slice An n.length cn)) (ds := []) #[false, false, false, false, false, false, false, false, false, false, false, false, false, false, false, false, false, false, false, false, false, false, false, false] (by kernel_rfl) rfl rfl ⟨(qi BP.out 0).trans rfl, (qi BP.out 1).trans rfl⟩ (fun hHeld => ?_); refine k8 mat.tab11 mat.bits11 (fun HT_ HW_ => ?_)
    generalize W9.drew = w20 at BP HB8 hHeld ⊢
    refine zt (i := 0) (N := (some 66)) (v := ?_) (a' := ?_) #[true, false, false, false, false, false, false, false, false, false, false, false, false, false, false, false, false, false, false, false, false, false, false, false] rfl rfl (zc HT_.out (by kernel_rfl)) (fun _ _ _ h => h) (Or.inl ⟨by rfl, ?_⟩) ?_ ?_
    rotate_left
    ·intro w'
     go_simp
     with_reducible rfl
    rotate_left
    ·simp only [Act.put, List.setIfInBounds_toArray, List.set_cons_zero, List.set_cons_succ, qy, qz]
     rfl
    refine zt (i := 2) (N := (some 68)) (v := ?_) (a' := ?_) #[true, false, true, false, false, false, false, false, false, false, false, false, false, false, false, false, false, false, false, false, false, false, false, false] rfl rfl (zc HT_.out (by kernel_rfl)) (fun _ _ _ h => h) (Or.inl ⟨by rfl, ?_⟩) ?_ ?_
    rotate_left
    ·intro w'
     go_simp
     with_reducible rfl
    rotate_left
    ·simp only [Act.put, List.setIfInBounds_toArray, List.set_cons_zero, List.set_cons_succ, qy, qz]
     rfl
    refine zt (i := 5) (N := (some 71)) (v := ?_) (a' := ?_) #[true, false, true, false, false, true, false, false, false, false, false, false, false, false, false, false, false, false, false, false, false, false, false, false] rfl rfl (zc HT_.out (by kernel_rfl)) (fun _ _ _ h => h) (Or.inl ⟨by rfl, ?_⟩) ?_ ?_
    rotate_left
    ·intro w'
     go_simp
     with_reducible rfl
    rotate_left
    ·simp only [Act.put, List.setIfInBounds_toArray, List.set_cons_zero, List.set_cons_succ, qy, qz]
     rfl
    refine zt (i := 7) (N := (some 73)) (v := ?_) (a' := ?_) #[true, false, true, false, false, true, false, true, false, false, false, false, false, false, false, false, false, false, false, false, false, false, false, false] rfl rfl (zc HT_.out (by kernel_rfl)) (fun _ _ _ h => h) (Or.inl ⟨by rfl, ?_⟩) ?_ ?_
    rotate_left
    ·intro w'
     go_simp
     with_reducible rfl
    rotate_left
    ·simp only [Act.put, List.setIfInBounds_toArray, List.set_cons_zero, List.set_cons_succ, qy, qz]
     rfl
    refine xm (i := 1) (N := (some 67)) (v := ?_) (a' := ?_) #[true, true, true, false, false, true, false, true, false, false, false, false, false, false, false, false, false, false, false, false, false, false, false, false] rfl rfl (zj HT_.out HW_.out (by kernel_rfl)) (fun _ _ _ h => h) (Or.inl ⟨by rfl, ?_⟩) hHeld ?_ ?_
    rotate_left
    ·rintro w' ⟨s0, s1⟩
     go_simp
     with_reducible rfl
    rotate_left
    ·simp only [Act.put, List.setIfInBounds_toArray, List.set_cons_zero, List.set_cons_succ, qy, qz]
     rfl
    refine xm (i := 3) (N := (some 69)) (v := ?_) (a' := ?_) #[true, true, true, true, false, true, false, true, false, false, false, false, false, false, false, false, false, false, false, false, false, false, false, false] rfl rfl (zj HT_.out HW_.out (by kernel_rfl)) (fun _ _ _ h => h) (Or.inl ⟨by rfl, ?_⟩) hHeld ?_ ?_
    rotate_left
    ·rintro w' ⟨s0, s1⟩
     go_simp
     with_reducible rfl
    rotate_left
    ·simp only [Act.put, List.setIfInBounds_toArray, List.set_cons_zero, List.set_cons_succ, qy, qz]
     rfl
    refine xm (i := 6) (N := (some 72)) (v := ?_) (a' := ?_) #[true, true, true, true, false, true, true, true, false, false, false, false, false, false, false, false, false, false, false, false, false, false, false, false] rfl rfl (zj HT_.out HW_.out (by kernel_rfl)) (fun _ _ _ h => h) (Or.inl ⟨by rfl, ?_⟩) hHeld ?_ ?_
    rotate_left
    ·rintro w' ⟨s0, s1⟩
     go_simp
     with_reducible rfl
    rotate_left
    ·simp only [Act.put, List.setIfInBounds_toArray, List.set_cons_zero, List.set_cons_succ, qy, qz]
     rfl
    refine xm (i := 8) (N := (some 74)) (v := ?_) (a' := ?_) #[true, true, true, true, false, true, true, true, true, false, false, false, false, false, false, false, false, false, false, false, false, false, false, false] rfl rfl (zj HT_.out HW_.out (by kernel_rfl)) (fun _ _ _ h => h) (Or.inl ⟨by rfl, ?_⟩) hHeld ?_ ?_
    rotate_left
    ·rintro w' ⟨s0, s1⟩
     go_simp
     with_reducible rfl
    rotate_left
    ·simp only [Act.put, List.setIfInBounds_toArray, List.set_cons_zero, List.set_cons_succ, qy, qz]
     rfl
    refine one_ (i := 4) (N := (some 70)) #[true, true, true, true, true, true, true, true, true, false, false, false, false, false, false, false, false, false, false, false, false, false, false, false] rfl rfl (kj HT_.out (by kernel_rfl)) (by decide) (fun K hK => ?_)
    refine k7 Tryd.func15 (by kernel_rfl) rfl #[.agg #[.slice Aa a.length ca], .agg #[.slice An n.length cn]] (by rfl) rfl rfl (by (try simp only [List.map_toArray, List.map_cons, List.map_nil]); first | done | rfl | (simp only [List.length_drop, List.length_take]; rfl)) ?_
    refine (matchT2 _ (Kd.xc HCa.out (qj HB.out HB8.out)) HPa.out (NAn.out.keep (KeepT.of (KeepBut.of_below HB8.out g none))).now NAn.out.cap FIa.out FIn.out R1.out).mono ?_
    rintro e_ w34 ⟨rfl, hq⟩
    refine ⟨_, rfl, ?_⟩
    replace BP := qa.mk (qt BP.out hq)
    replace HB8 := qa.mk (qj HB8.out hq)
    clear hq
    refine hK.out _ _ ⟨(qi BP.out 0).trans rfl, (qi BP.out 1).trans rfl⟩ (fun hHeld => ?_)
    clear hK K
    refine kw (a' := ?_) ?_ ?_
    rotate_left
    ·show Act.put _ (some 70) _ = _
     simp only [Act.put, List.setIfInBounds_toArray, List.set_cons_zero, List.set_cons_succ, qy, qz]
     rfl
    refine one_ (i := 9) (N := (some 75)) #[true, true, true, true, true, true, true, true, true, true, false, false, false, false, false, false, false, false, false, false, false, false, false, false] rfl rfl (kj HT_.out (by kernel_rfl)) (by decide) (fun K hK => ?_)
    refine k7 Tryd.func16 (by kernel_rfl) rfl #[.agg #[.slice Aa a.length ca], .agg #[.slice An n.length cn]] (by rfl) rfl rfl (by (try simp only [List.map_toArray, List.map_cons, List.map_nil]); first | done | rfl | (simp only [List.length_drop, List.length_take]; rfl)) ?_
    refine (matchR2 _ (Kd.xc HCa.out (qj HB.out HB8.out)) HPa.out (NAn.out.keep (KeepT.of (KeepBut.of_below HB8.out g none))).now NAn.out.cap FIa.out FIn.out R1.out).mono ?_
    rintro e_ w39 ⟨rfl, hq⟩
    refine ⟨_, rfl, ?_⟩
    replace BP := qa.mk (qt BP.out hq)
    replace HB8 := qa.mk (qj HB8.out hq)
    clear hq
    refine hK.out _ _ ⟨(qi BP.out 0).trans rfl, (qi BP.out 1).trans rfl⟩ (fun hHeld => ?_)
    clear hK K
    refine kw (a' := ?_) ?_ ?_
    rotate_left
    ·show Act.put _ (some 75) _ = _
     simp only [Act.put, List.setIfInBounds_toArray, List.set_cons_zero, List.set_cons_succ, qy, qz]
     rfl
    refine zt (i := 10) (N := (some 76)) (v := ?_) (a' := ?_) #[true, true, true, true, true, true, true, true, true, true, true, false, false, false, false, false, false, false, false, false, false, false, false, false] rfl rfl (zc HT_.out (by kernel_rfl)) (fun _ _ _ h => h) (Or.inl ⟨by rfl, ?_⟩) ?_ ?_
    rotate_left
    ·intro w'
     go_simp
     with_reducible rfl
    rotate_left
    ·simp only [Act.put, List.setIfInBounds_toArray, List.set_cons_zero, List.set_cons_succ, qy, qz]
     rfl
    refine zt (i := 11) (N := (some 77)) (v := ?_) (a' := ?_) #[true, true, true, true, true, true, true, true, true, true, true, true, false, false, false, false, false, false, false, false, false, false, false, false] rfl rfl (zc HT_.out (by kernel_rfl)) (fun _ _ _ h => h) (Or.inl ⟨by rfl, ?_⟩) ?_ ?_
    rotate_left
    ·intro w'
     go_simp
     with_reducible rfl
    rotate_left
    ·simp only [Act.put, List.setIfInBounds_toArray, List.set_cons_zero, List.set_cons_succ, qy, qz]
     rfl
    refine zt (i := 12) (N := (some 78)) (v := ?_) (a' := ?_) #[true, true, true, true, true, true, true, true, true, true, true, true, true, false, false, false, false, false, false, false, false, false, false, false] rfl rfl (zc HT_.out (by kernel_rfl)) (fun _ _ _ h => h) (Or.inl ⟨by rfl, ?_⟩) ?_ ?_
    rotate_left
    ·intro w'
     go_simp
     with_reducible rfl
    rotate_left
    ·simp only [Act.put, List.setIfInBounds_toArray, List.set_cons_zero, List.set_cons_succ, qy, qz]
     rfl
    refine zt (i := 14) (N := (some 80)) (v := ?_) (a' := ?_) #[true, true, true, true, true, true, true, true, true, true, true, true, true, false, true, false, false, false, false, false, false, false, false, false] rfl rfl (zc HT_.out (by kernel_rfl)) (fun _ _ _ h => h) (Or.inl ⟨by rfl, ?_⟩) ?_ ?_
    rotate_left
    ·intro w'
     go_simp
     with_reducible rfl
    rotate_left
    ·simp only [Act.put, List.setIfInBounds_toArray, List.set_cons_zero, List.set_cons_succ, qy, qz]
     rfl
    refine zt (i := 17) (N := (some 83)) (v := ?_) (a' := ?_) #[true, true, true, true, true, true, true, true, true, true, true, true, true, false, true, false, false, true, false, false, false, false, false, false] rfl rfl (zc HT_.out (by kernel_rfl)) (fun _ _ _ h => h) (Or.inl ⟨by rfl, ?_⟩) ?_ ?_
    rotate_left
    ·intro w'
     go_simp
     with_reducible rfl
    rotate_left
    ·simp only [Act.put, List.setIfInBounds_toArray, List.set_cons_zero, List.set_cons_succ, qy, qz]
     rfl
    refine zt (i := 19) (N := (some 85)) (v := ?_) (a' := ?_) #[true, true, true, true, true, true, true, true, true, true, true, true, true, false, true, false, false, true, false, true, false, false, false, false] rfl rfl (zc HT_.out (by kernel_rfl)) (fun _ _ _ h => h) (Or.inl ⟨by rfl, ?_⟩) ?_ ?_
    rotate_left
    ·intro w'
     go_simp
     with_reducible rfl
    rotate_left
    ·simp only [Act.put, List.setIfInBounds_toArray, List.set_cons_zero, List.set_cons_succ, qy, qz]
     rfl
    refine xm (i := 13) (N := (some 79)) (v := ?_) (a' := ?_) #[true, true, true, true, true, true, true, true, true, true, true, true, true, true, true, false, false, true, false, true, false, false, false, false] rfl rfl (zj HT_.out HW_.out (by kernel_rfl)) (fun _ _ _ h => h) (Or.inl ⟨by rfl, ?_⟩) hHeld ?_ ?_
    rotate_left
    ·rintro w' ⟨s0, s1⟩
     go_simp
     with_reducible rfl
    rotate_left
    ·simp only [Act.put, List.setIfInBounds_toArray, List.set_cons_zero, List.set_cons_succ, qy, qz]
     rfl
    refine xm (i := 15) (N := (some 81)) (v := ?_) (a' := ?_) #[true, true, true, true, true, true, true, true, true, true, true, true, true, true, true, true, false, true, false, true, false, false, false, false] rfl rfl (zj HT_.out HW_.out (by kernel_rfl)) (fun _ _ _ h => h) (Or.inl ⟨by rfl, ?_⟩) hHeld ?_ ?_
    rotate_left
    ·rintro w' ⟨s0, s1⟩
     go_simp
     with_reducible rfl
    rotate_left
    ·simp only [Act.put, List.setIfInBounds_toArray, List.set_cons_zero, List.set_cons_succ, qy, qz]
     rfl
    refine xm (i := 18) (N := (some 84)) (v := ?_) (a' := ?_) #[true, true, true, true, true, true, true, true, true, true, true, true, true, true, true, true, false, true, true, true, false, false, false, false] rfl rfl (zj HT_.out HW_.out (by kernel_rfl)) (fun _ _ _ h => h) (Or.inl ⟨by rfl, ?_⟩) hHeld ?_ ?_
    rotate_left
    ·rintro w' ⟨s0, s1⟩
     go_simp
     with_reducible rfl
    rotate_left
    ·simp only [Act.put, List.setIfInBounds_toArray, List.set_cons_zero, List.set_cons_succ, qy, qz]
     rfl
    refine xm (i := 20) (N := (some 86)) (v := ?_) (a' := ?_) #[true, true, true, true, true, true, true, true, true, true, true, true, true, true, true, true, false, true, true, true, true, false, false, false] rfl rfl (zj HT_.out HW_.out (by kernel_rfl)) (fun _ _ _ h => h) (Or.inl ⟨by rfl, ?_⟩) hHeld ?_ ?_
    rotate_left
    ·rintro w' ⟨s0, s1⟩
     go_simp
     with_reducible rfl
    rotate_left
    ·simp only [Act.put, List.setIfInBounds_toArray, List.set_cons_zero, List.set_cons_succ, qy, qz]
     rfl
    refine one_ (i := 16) (N := (some 82)) #[true, true, true, true, true, true, true, true, true, true, true, true, true, true, true, true, true, true, true, true, true, false, false, false] rfl rfl (kj HT_.out (by kernel_rfl)) (by decide) (fun K hK => ?_)
    refine k7 Tryd.func17 (by kernel_rfl) rfl #[.agg #[.slice Aa a.length ca], .agg #[.slice An n.length cn]] (by rfl) rfl rfl (by (try simp only [List.map_toArray, List.map_cons, List.map_nil]); first | done | rfl | (simp only [List.length_drop, List.length_take]; rfl)) ?_
    refine (withinT2 _ (Kd.xc HCa.out (qj HB.out HB8.out)) HPa.out (NAn.out.keep (KeepT.of (KeepBut.of_below HB8.out g none))).now NAn.out.cap FIa.out FIn.out R2.out).mono ?_
    rintro e_ w46 ⟨rfl, hq⟩
    refine ⟨_, rfl, ?_⟩
    replace BP := qa.mk (qt BP.out hq)
    replace HB8 := qa.mk (qj HB8.out hq)
    clear hq
    refine hK.out _ _ ⟨(qi BP.out 0).trans rfl, (qi BP.out 1).trans rfl⟩ (fun hHeld => ?_)
    clear hK K
    refine kw (a' := ?_) ?_ ?_
    rotate_left
    ·show Act.put _ (some 82) _ = _
     simp only [Act.put, List.setIfInBounds_toArray, List.set_cons_zero, List.set_cons_succ, qy, qz]
     rfl
    refine one_ (i := 21) (N := (some 87)) #[true, true, true, true, true, true, true, true, true, true, true, true, true, true, true, true, true, true, true, true, true, true, false, false] rfl rfl (kj HT_.out (by kernel_rfl)) (by decide) (fun K hK => ?_)
    refine k7 Tryd.func18 (by kernel_rfl) rfl #[.agg #[.slice Aa a.length ca], .agg #[.slice An n.length cn]] (by rfl) rfl rfl (by (try simp only [List.map_toArray, List.map_cons, List.map_nil]); first | done | rfl | (simp only [List.length_drop, List.length_take]; rfl)) ?_
    refine (withinR2 _ (Kd.xc HCa.out (qj HB.out HB8.out)) HPa.out (NAn.out.keep (KeepT.of (KeepBut.of_below HB8.out g none))).now NAn.out.cap FIa.out FIn.out R2.out).mono ?_
    rintro e_ w51 ⟨rfl, hq⟩
    refine ⟨_, rfl, ?_⟩
    replace BP := qa.mk (qt BP.out hq)
    replace HB8 := qa.mk (qj HB8.out hq)
    clear hq
    refine hK.out _ _ ⟨(qi BP.out 0).trans rfl, (qi BP.out 1).trans rfl⟩ (fun hHeld => ?_)
    clear hK K
    refine kw (a' := ?_) ?_ ?_
    rotate_left
    ·show Act.put _ (some 87) _ = _
     simp only [Act.put, List.setIfInBounds_toArray, List.set_cons_zero, List.set_cons_succ, qy, qz]
     rfl
    refine zt (i := 22) (N := (some 88)) (v := ?_) (a' := ?_) #[true, true, true, true, true, true, true, true, true, true, true, true, true, true, true, true, true, true, true, true, true, true, true, false] rfl rfl (zc HT_.out (by kernel_rfl)) (fun _ _ _ h => h) (Or.inl ⟨by rfl, ?_⟩) ?_ ?_
    rotate_left
    ·intro w'
     go_simp
     with_reducible rfl
    rotate_left
    ·simp only [Act.put, List.setIfInBounds_toArray, List.set_cons_zero, List.set_cons_succ, qy, qz]
     rfl
    refine zt (i := 23) (N := (some 89)) (v := ?_) (a' := ?_) #[true, true, true, true, true, true, true, true, true, true, true, true, true, true, true, true, true, true, true, true, true, true, true, true] rfl rfl (zc HT_.out (by kernel_rfl)) (fun _ _ _ h => h) (Or.inl ⟨by rfl, ?_⟩) ?_ ?_
    rotate_left
    ·intro w'
     go_simp
     with_reducible rfl
    rotate_left
    ·simp only [Act.put, List.setIfInBounds_toArray, List.set_cons_zero, List.set_cons_succ, qy, qz]
     rfl
    refine done_ (done_of HT_.out (by kernel_rfl)) ?_
    go_wp2
    go_roundg 0
    case measure => omega
    case rel => exact ⟨6, rfl, ⟨by omega⟩, ⟨by omega⟩, HB8⟩
   | n_ + 7, hi, hk6 => exact absurd hk6.out (by omega)
def ky.Pure : Prop := True
theorem ky.walk (P : ky.Pure) (Aa : Option Addr) (ca : Nat) (na : List (List S26)) (Ab : Option Addr) (cb : Nat) (nb : List (List S26)) {w : World} (hca : Kd.C (Kd.slice 26 k26) w Aa na.length na) (hcb : Kd.C (Kd.slice 26 k26) w Ab nb.length nb) (hpa : na.length ≤ ca) (hpb : nb.length ≤ cb) (hBa : BigN na) (hBb : BigN nb)
  (a0 : Option Addr) (len0 cap0 : Nat) (z0 : List Int) (w_ : World) (hG : LibHeld w) (w0 : (a0 = none ∧ len0 = 0 ∧ cap0 = 0 ∧ z0 = []) ∨ ∃ x, a0 = some x ∧ len0 ≤ cap0 ∧ cap0 ≤ maxLen ∧ z0.length = cap0 ∧ (∀ i, i < z0.length → w.cell? (x.add i) = some (.int .i64 (z0.getD i 0))) ∧ ∀ n ∈ z0, (Lit.int .i64 n).wf = true) (y0 : len0 * 8 ≤ 140737488351232) :
  Calls Tryd.prog 4 #[.agg #[.slice Aa na.length ca], .agg #[.slice Ab nb.length cb], .slice a0 len0 cap0] w fun e w' => e = .returned (.bool true) ∧ Below w.heap.size w w' := by
 obtain ⟨l0, rfl, hr0, hm0, hw0, hc0⟩ := ReadsInt.ofRowC w0
 exact match_calls Aa Ab _ ca cb _ na nb l0 w hG hca hcb hpa hpb hBa hBb (Kd.C_of_reads (d := (0 : Int)) (h1 := fun _ => rfl) hr0) hc0 (by omega)
end Go.Proofs.YtjhlinifnjoefaaDoor.C
namespace Go.Proofs.YtjhlinifnjoefaaDoor.Pure
open Go.Proofs.YtjhlinifnjoefaaDoor.C
theorem NameMatch : ky.Pure := trivial
end Go.Proofs.YtjhlinifnjoefaaDoor.Pure
end
