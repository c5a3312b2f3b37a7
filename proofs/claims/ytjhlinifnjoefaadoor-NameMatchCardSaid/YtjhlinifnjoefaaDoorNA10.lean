/- Words, walks and plain laws that the claim rests on, gathered. -/
import Derived.Below
import Derived.Deep.Draws
import Derived.Deep.AppendLies
import Derived.Maps.AppendAt
import Derived.OwnWalk
import Derived.Laws.BytesArg
import Derived.Laws.MakeOwn
import Derived.Laws.OwnMore
import Derived.Deep.OwnRows
import Derived.Tactics
import Derived.Lib.ConvBytes
import Derived.Laws.Slices
import Derived.WalkKit
import Derived.KernelRfl
import Derived.RowKit3
import Derived.Deep.LoopGhost
import Derived.Deep.QuietTactic
import Derived.BigQuiet
import Derived.WideLaws
import Derived.Deep.DeepCutAuto
import Derived.Deep.CutBlock
import Derived.Deep.RegionHeld3
import Derived.Laws.Rows
import Derived.Lib.AppendStr
import Derived.ArgAppend
import Derived.Laws.IdiomCopy
import Derived.RowKit
import Derived.OrdersHeld
import Derived.Laws.BitsLemmas
import Derived.Laws.StructEq
import Derived.Test.YtjhlinifnjoefaaDoorProg
import Derived.WalkSpells
import Derived.Shelf.Small.Strs
import Derived.Shelf.Strings.Search1
import Derived.Shelf.Strings.Search2
import Derived.Shelf.Strings.Search3
import Derived.Shelf.Strings.Cut
import Derived.Shelf.Strings.Count
import Derived.Shelf.LaysM
import Derived.Shelf.Strings.Shaped
import Derived.Shelf.Strings.Prefix
import Derived.Shelf.Strings.Split
import Derived.Shelf.Strings.SplitShaped
import Derived.Shelf.Unicode.DecodeSlow
import Derived.Test.YtjhlinifnjoefaaDoorNA0
import Derived.Test.YtjhlinifnjoefaaDoorNA1
import Derived.Test.YtjhlinifnjoefaaDoorNA2
import Derived.Test.YtjhlinifnjoefaaDoorNA8
import Derived.Test.YtjhlinifnjoefaaDoorNA9
namespace Go.Proofs.YtjhlinifnjoefaaDoorW.PrintLast
end Go.Proofs.YtjhlinifnjoefaaDoorW.PrintLast
namespace Go.Proofs.YtjhlinifnjoefaaDoorW.PrintMore
end Go.Proofs.YtjhlinifnjoefaaDoorW.PrintMore
namespace Go.Proofs.YtjhlinifnjoefaaDoorW.PrintWords
end Go.Proofs.YtjhlinifnjoefaaDoorW.PrintWords
section
namespace Go.Proofs.YtjhlinifnjoefaaDoor.C
open Go.RowKit Go.Proofs.YtjhlinifnjoefaaDoorW.PrintWords Go.Proofs.YtjhlinifnjoefaaDoorW.PrintLast Go.Proofs.YtjhlinifnjoefaaDoorW.PrintMore
attribute [local go_sem] xr xp xw xx xf xe xq xo
set_option linter.unusedVariables false
set_option linter.unusedSimpArgs false
def xk.f (k : Nat) (l0_0 : List (List (S26))) (l1_0 : List (List (S26))) : Option (Bool) := if (l0_0.length : Int) = (l1_0.length : Int) then ((qo.f k l0_0 l1_0).bind fun t280 => (some t280)) else (some false)
theorem xk.mono : ∀ a0 a1 k, LeO (xk.f k a0 a1) (xk.f (k + 1) a0 a1) := by
 intro a0 a1 k
 unfold xk.f
 repeat' first
   | (with_reducible exact qo.mono _ _ _)
   | (with_reducible exact LeO.refl _)
   | (with_reducible exact LeO.none _)
   | (with_reducible refine LeO.ite ?_ ?_)
   | (with_reducible refine LeO.bind ?_ (fun _ => ?_))
set_option maxHeartbeats 8000000 in
set_option maxRecDepth 100000 in
theorem xk.calls (k : Nat) (A0_0 : Option Addr) (c0_0 : Nat) (l0_0 : List (List (S26))) (A1_0 : Option Addr) (c1_0 : Nat) (l1_0 : List (List (S26))) (r : Bool) (w : World) (hr0_0 : Kd.C (Kd.slice 26 k26) w A0_0 l0_0.length l0_0) (hc0_0 : l0_0.length ≤ c0_0) (hr1_0 : Kd.C (Kd.slice 26 k26) w A1_0 l1_0.length l1_0) (hc1_0 : l1_0.length ≤ c1_0) (h : xk.f k l0_0 l1_0 = some r) :
  Calls Tryd.prog 16 #[.agg #[.slice A0_0 l0_0.length c0_0], .agg #[.slice A1_0 l1_0.length c1_0]] w fun e w' => e = .returned (.bool r) ∧ Below w.heap.size w w' := by
 have hu24 := Tryd.underlying24
 have HR0_0 := qa.mk hr0_0
 have HC0_0 := qa.mk hc0_0
 clear hr0_0 hc0_0
 have HR1_0 := qa.mk hr1_0
 have HC1_0 := qa.mk hc1_0
 clear hr1_0 hc1_0
 have HB := qa.mk (Below.refl w.heap.size w)
 have H : (if (l0_0.length : Int) = (l1_0.length : Int) then ((qo.f k l0_0 l1_0).bind fun t280 => (some t280)) else (some false)) = some r := h
 clear h
 by_cases c3 : (l0_0.length : Int) = (l1_0.length : Int)
 ·rw [if_pos c3] at H
  have c3b0 : ((l0_0.length : Int) == (l1_0.length : Int)) = true := beq_iff_eq.mpr c3
  have c3b1 : ((l0_0.length : Int) != (l1_0.length : Int)) = false := bne_eq_false_iff_eq.mpr c3
  have c3b2 : (l0_0.length == l1_0.length) = true := by first | simpa using c3 | (simp at c3 ⊢; omega)
  clear c3
  replace H := Option.bind_eq_some_iff.mp H
  obtain ⟨t280, A40, H⟩ := H
  replace H : (some t280) = some r := H
  have A4 := qa.mk A40
  clear A40
  obtain rfl := Option.some.inj H
  go_enter Tryd.func16, Tryd.ntmps16
  go_wp2_with (first | ((with_reducible refine zd (N := 2) rfl ?_); refine zg ?hg (N := 2) ?hd (cs := #[.slice A0_0 l0_0.length c0_0]) (t := 24) ?hr ?_; (case hd => rfl); (case hg => rfl); (case hr => first | (go_simp; done) | (go_simp; rfl)); intro gb278 hg w5 hbox hb; have n0_ := qa.mk (qj (by repeat (first | (with_reducible first | exact HB.out | apply qc | apply qb | apply qd) | exact HB.out)) hb); have n1_ := qa.mk (hbox); have n2_ := qa.mk ((by rw [hg]; exact (qm (by repeat (first | (with_reducible first | exact HB.out | apply qc | apply qb | apply qd) | exact HB.out))) : w.heap.size ≤ gb278)); have n3_ := qa.mk ((by rw [hg]; exact (qm (by repeat (first | (with_reducible first | exact HB.out | apply qc | apply qb | apply qd) | exact HB.out))) : w.heap.size ≤ gb278)); clear HB; have HB := n0_; have BK278 := n1_; have GW278 := n2_; have GE278 := n3_; clear n0_ n1_ n2_ n3_; clear hb hbox hg) | ((with_reducible refine zd (N := 3) rfl ?_); refine zg ?hg (N := 3) ?hd (cs := #[.slice A1_0 l1_0.length c1_0]) (t := 24) ?hr ?_; (case hd => rfl); (case hg => rfl); (case hr => first | (go_simp; done) | (go_simp; rfl)); intro gb279 hg w6 hbox hb; have n0_ := qa.mk (qt (g := gb278) (o := .cells #[.slice A0_0 l0_0.length c0_0] 24 (0, 0)) (by (with_reducible repeat (first | refine qg ?_ _ | refine qh ?_ | refine qf ?_ _)); exact BK278.out) hb); have n1_ := qa.mk (qj (by repeat (first | (with_reducible first | exact HB.out | apply qc | apply qb | apply qd | refine qe ?_ GE278.out) | exact HB.out)) hb); have n2_ := qa.mk (hbox); have n3_ := qa.mk ((by rw [hg]; exact (qm (by repeat (first | (with_reducible first | exact HB.out | apply qc | apply qb | apply qd | refine qe ?_ GE278.out) | exact HB.out))) : w.heap.size ≤ gb279)); have n4_ := qa.mk ((by rw [hg]; exact (qm (by repeat (first | (with_reducible first | exact HB.out | apply qc | apply qb | apply qd | refine qe ?_ GE278.out) | exact HB.out))) : w.heap.size ≤ gb279)); have n5_ := qa.mk ((by rw [hg]; exact Nat.ne_of_lt (zl (g := gb278) (o := .cells #[.slice A0_0 l0_0.length c0_0] 24 (0, 0)) (by (with_reducible repeat (first | refine qg ?_ _ | refine qh ?_ | refine qf ?_ _)); exact BK278.out)) : gb278 ≠ gb279)); have n6_ := qa.mk ((by rw [hg]; exact Nat.ne_of_gt (zl (g := gb278) (o := .cells #[.slice A0_0 l0_0.length c0_0] 24 (0, 0)) (by (with_reducible repeat (first | refine qg ?_ _ | refine qh ?_ | refine qf ?_ _)); exact BK278.out)) : gb279 ≠ gb278)); clear BK278; clear HB; have BK278 := n0_; have HB := n1_; have BK279 := n2_; have GW279 := n3_; have GE279 := n4_; have NB278_279 := n5_; have NB279_278 := n6_; clear n0_ n1_ n2_ n3_ n4_ n5_ n6_; clear hb hbox hg; have hnb7 := NB278_279.out; have hnc7 := NB279_278.out; have hcz8_0 : w6.cell? ⟨gb278, 0, none⟩ = some (.slice A0_0 l0_0.length c0_0) := (qi BK278.out 0).trans rfl; have hfz8_0 := qk BK278.out 0; have hcz9_0 : w6.cell? ⟨gb279, 0, none⟩ = some (.slice A1_0 l1_0.length c1_0) := (qi BK279.out 0).trans rfl; have hfz9_0 := qk BK279.out 0) | (go_at_call 18; (with_reducible refine (qo.calls k _ _ l0_0 _ _ l1_0 t280 _ ?side1 ?side2 ?side3 ?side4 A4.out).mono ?_); (case side1 => repeat (first | exact (Kd.xc HR0_0.out HB.out) | (with_reducible refine Kd.ke ?_ _) | (with_reducible refine Kd.kf ?_ _) | (with_reducible refine Kd.ks ?_))); (case side2 => exact HC0_0.out); (case side3 => repeat (first | exact (Kd.xc HR1_0.out HB.out) | (with_reducible refine Kd.ke ?_ _) | (with_reducible refine Kd.kf ?_ _) | (with_reducible refine Kd.ks ?_))); (case side4 => exact HC1_0.out); rintro e w10 ⟨rfl, hb⟩; have n0_ := qa.mk (qt (g := gb278) (o := .cells #[.slice A0_0 l0_0.length c0_0] 24 (0, 0)) (by (with_reducible repeat (first | refine qg ?_ _ | refine qh ?_ | refine qf ?_ _)); exact BK278.out) hb); have n1_ := qa.mk (qt (g := gb279) (o := .cells #[.slice A1_0 l1_0.length c1_0] 24 (0, 0)) (by (with_reducible repeat (first | refine qg ?_ _ | refine qh ?_ | refine qf ?_ _)); exact BK279.out) hb); have n2_ := qa.mk (qj (by repeat (first | (with_reducible first | exact HB.out | apply qc | apply qb | apply qd | refine qe ?_ GE278.out | refine qe ?_ GE279.out) | exact HB.out)) hb); clear BK278; clear BK279; clear HB; have BK278 := n0_; have BK279 := n1_; have HB := n2_; clear n0_ n1_ n2_; (try clear hb); (try clear hb2); (try clear hk); (try clear hi)))
  go_ret
  exact ⟨by first | rfl | (simp [qq, qp] <;> rfl) | (simp [*, qq, qp] <;> rfl), by repeat (first | (with_reducible first | exact HB.out | apply qc | apply qb | apply qd | refine qe ?_ GE278.out | refine qe ?_ GE279.out) | exact HB.out)⟩
 ·rw [if_neg c3] at H
  have c3b0 : ((l0_0.length : Int) == (l1_0.length : Int)) = false := beq_eq_false_iff_ne.mpr c3
  have c3b1 : ((l0_0.length : Int) != (l1_0.length : Int)) = true := bne_iff_ne.mpr c3
  have c3b2 : (l0_0.length == l1_0.length) = false := by first | simpa using c3 | (simp at c3 ⊢; omega)
  obtain rfl := Option.some.inj H
  go_enter Tryd.func16, Tryd.ntmps16
  go_wp2_with (first | ((with_reducible refine zd (N := 2) rfl ?_); refine zg ?hg (N := 2) ?hd (cs := #[.slice A0_0 l0_0.length c0_0]) (t := 24) ?hr ?_; (case hd => rfl); (case hg => rfl); (case hr => first | (go_simp; done) | (go_simp; rfl)); intro gb278 hg w11 hbox hb; have n0_ := qa.mk (qj (by repeat (first | (with_reducible first | exact HB.out | apply qc | apply qb | apply qd) | exact HB.out)) hb); have n1_ := qa.mk (hbox); have n2_ := qa.mk ((by rw [hg]; exact (qm (by repeat (first | (with_reducible first | exact HB.out | apply qc | apply qb | apply qd) | exact HB.out))) : w.heap.size ≤ gb278)); have n3_ := qa.mk ((by rw [hg]; exact (qm (by repeat (first | (with_reducible first | exact HB.out | apply qc | apply qb | apply qd) | exact HB.out))) : w.heap.size ≤ gb278)); clear HB; have HB := n0_; have BK278 := n1_; have GW278 := n2_; have GE278 := n3_; clear n0_ n1_ n2_ n3_; clear hb hbox hg) | ((with_reducible refine zd (N := 3) rfl ?_); refine zg ?hg (N := 3) ?hd (cs := #[.slice A1_0 l1_0.length c1_0]) (t := 24) ?hr ?_; (case hd => rfl); (case hg => rfl); (case hr => first | (go_simp; done) | (go_simp; rfl)); intro gb279 hg w12 hbox hb; have n0_ := qa.mk (qt (g := gb278) (o := .cells #[.slice A0_0 l0_0.length c0_0] 24 (0, 0)) (by (with_reducible repeat (first | refine qg ?_ _ | refine qh ?_ | refine qf ?_ _)); exact BK278.out) hb); have n1_ := qa.mk (qj (by repeat (first | (with_reducible first | exact HB.out | apply qc | apply qb | apply qd | refine qe ?_ GE278.out) | exact HB.out)) hb); have n2_ := qa.mk (hbox); have n3_ := qa.mk ((by rw [hg]; exact (qm (by repeat (first | (with_reducible first | exact HB.out | apply qc | apply qb | apply qd | refine qe ?_ GE278.out) | exact HB.out))) : w.heap.size ≤ gb279)); have n4_ := qa.mk ((by rw [hg]; exact (qm (by repeat (first | (with_reducible first | exact HB.out | apply qc | apply qb | apply qd | refine qe ?_ GE278.out) | exact HB.out))) : w.heap.size ≤ gb279)); have n5_ := qa.mk ((by rw [hg]; exact Nat.ne_of_lt (zl (g := gb278) (o := .cells #[.slice A0_0 l0_0.length c0_0] 24 (0, 0)) (by (with_reducible repeat (first | refine qg ?_ _ | refine qh ?_ | refine qf ?_ _)); exact BK278.out)) : gb278 ≠ gb279)); have n6_ := qa.mk ((by rw [hg]; exact Nat.ne_of_gt (zl (g := gb278) (o := .cells #[.slice A0_0 l0_0.length c0_0] 24 (0, 0)) (by (with_reducible repeat (first | refine qg ?_ _ | refine qh ?_ | refine qf ?_ _)); exact BK278.out)) : gb279 ≠ gb278)); clear BK278; clear HB; have BK278 := n0_; have HB := n1_; have BK279 := n2_; have GW279 := n3_; have GE279 := n4_; have NB278_279 := n5_; have NB279_278 := n6_; clear n0_ n1_ n2_ n3_ n4_ n5_ n6_; clear hb hbox hg; have hnb13 := NB278_279.out; have hnc13 := NB279_278.out; have hcz14_0 : w12.cell? ⟨gb278, 0, none⟩ = some (.slice A0_0 l0_0.length c0_0) := (qi BK278.out 0).trans rfl; have hfz14_0 := qk BK278.out 0; have hcz15_0 : w12.cell? ⟨gb279, 0, none⟩ = some (.slice A1_0 l1_0.length c1_0) := (qi BK279.out 0).trans rfl; have hfz15_0 := qk BK279.out 0))
  go_ret
  exact ⟨by first | rfl | (simp [qq, qp] <;> rfl) | (simp [*, qq, qp] <;> rfl), by repeat (first | (with_reducible first | exact HB.out | apply qc | apply qb | apply qd | refine qe ?_ GE278.out | refine qe ?_ GE279.out) | exact HB.out)⟩
mutual
def qr.l0 : Nat → List (List (S26)) → Int → Int → Option (Bool)
 | 0, _, _, _ => none
 | k + 1, x12, x13, x14 => if x14 < x13 then (if 0 ≤ x14 then (if x14 < (x12.length : Int) then (if ((xi x12 x14).length : Int) > 8 then (some false) else (qr.l1 k x12 x13 x14 (xi x12 x14) ((xi x12 x14).length : Int) 0)) else (none)) else (none)) else (some true)
def qr.l1 : Nat → List (List (S26)) → Int → Int → List (S26) → Int → Int → Option (Bool)
 | 0, _, _, _, _, _, _ => none
 | k + 1, x12, x13, x14, x21, x22, x23 => if x23 < x22 then (if 0 ≤ x23 then (if x23 < (x21.length : Int) then (if (((qn x21 x23).f0).size : Int) > 200 then (some false) else (if (((qn x21 x23).f2).size : Int) > 200 then (some false) else (qr.l1 k x12 x13 x14 x21 x22 (wrap64 (x23 + 1))))) else (none)) else (none)) else (qr.l0 k x12 x13 (wrap64 (x14 + 1)))
end
def qr.f (k : Nat) (l0_0 : List (List (S26))) : Option (Bool) := if (l0_0.length : Int) > 12 then (some false) else (qr.l0 k l0_0 (l0_0.length : Int) 0)
theorem qr.xu : ∀ k, (∀ y0 y1 y2, LeO (qr.l0 k y0 y1 y2) (qr.l0 (k + 1) y0 y1 y2)) ∧ (∀ y0 y1 y2 y3 y4 y5, LeO (qr.l1 k y0 y1 y2 y3 y4 y5) (qr.l1 (k + 1) y0 y1 y2 y3 y4 y5))
 | 0 => ⟨fun _ _ _ r h => by simp [qr.l0] at h, fun _ _ _ _ _ _ r h => by simp [qr.l1] at h⟩
 | k + 1 => by
  obtain ⟨ih0, ih1⟩ := qr.xu k
  refine ⟨?_, ?_⟩
  ·intro y0 y1 y2
   unfold qr.l0
   repeat' first
   | (with_reducible exact ih0 _ _ _)
   | (with_reducible exact ih1 _ _ _ _ _ _)
   | (with_reducible exact LeO.refl _)
   | (with_reducible exact LeO.none _)
   | (with_reducible refine LeO.ite ?_ ?_)
   | (with_reducible refine LeO.bind ?_ (fun _ => ?_))
  ·intro y0 y1 y2 y3 y4 y5
   unfold qr.l1
   repeat' first
   | (with_reducible exact ih0 _ _ _)
   | (with_reducible exact ih1 _ _ _ _ _ _)
   | (with_reducible exact LeO.refl _)
   | (with_reducible exact LeO.none _)
   | (with_reducible refine LeO.ite ?_ ?_)
   | (with_reducible refine LeO.bind ?_ (fun _ => ?_))
theorem qr.mono : ∀ a0 k, LeO (qr.f k a0) (qr.f (k + 1) a0) := by
 intro a0 k
 obtain ⟨ih0, ih1⟩ := qr.xu k
 unfold qr.f
 repeat' first
   | (with_reducible exact ih0 _ _ _)
   | (with_reducible exact ih1 _ _ _ _ _ _)
   | (with_reducible exact LeO.refl _)
   | (with_reducible exact LeO.none _)
   | (with_reducible refine LeO.ite ?_ ?_)
   | (with_reducible refine LeO.bind ?_ (fun _ => ?_))
set_option maxHeartbeats 8000000 in
set_option maxRecDepth 100000 in
theorem qr.calls (k : Nat) (A0_0 : Option Addr) (c0_0 : Nat) (l0_0 : List (List (S26))) (r : Bool) (w : World) (hr0_0 : Kd.C (Kd.slice 26 k26) w A0_0 l0_0.length l0_0) (hc0_0 : l0_0.length ≤ c0_0) (h : qr.f k l0_0 = some r) :
  Calls Tryd.prog 10 #[.agg #[.slice A0_0 l0_0.length c0_0]] w fun e w' => e = .returned (.bool r) ∧ Below w.heap.size w w' := by
 have hu24 := Tryd.underlying24
 have hu26 := Tryd.underlying26
 have HR0_0 := qa.mk hr0_0
 have HC0_0 := qa.mk hc0_0
 clear hr0_0 hc0_0
 have HB := qa.mk (Below.refl w.heap.size w)
 have H : (if (l0_0.length : Int) > 12 then (some false) else (qr.l0 k l0_0 (l0_0.length : Int) 0)) = some r := h
 clear h
 by_cases c2 : (l0_0.length : Int) > 12
 ·rw [if_pos c2] at H
  have c2b0 : decide (12 < (l0_0.length : Int)) = true := decide_eq_true c2
  have c2b1 : decide (12 < l0_0.length) = true := decide_eq_true (by omega)
  clear c2
  obtain rfl := Option.some.inj H
  go_enter Tryd.func10, Tryd.ntmps10
  go_wp2_with (first | ((with_reducible refine zd (N := 1) rfl ?_); (try (refine xl (by rfl) ?_; dsimp only)); refine zg ?hg (N := 1) ?hd (cs := #[.slice A0_0 l0_0.length c0_0]) (t := 24) ?hr ?_; (case hd => rfl); (case hg => rfl); (case hr => first | (go_simp; done) | (go_simp; rfl)); intro gb281 hg w3 hbox hb; have n0_ := qa.mk (qj (by repeat (first | (with_reducible first | exact HB.out | apply qc | apply qb | apply qd) | exact HB.out)) hb); have n1_ := qa.mk (hbox); have n2_ := qa.mk ((by rw [hg]; exact (qm (by repeat (first | (with_reducible first | exact HB.out | apply qc | apply qb | apply qd) | exact HB.out))) : w.heap.size ≤ gb281)); have n3_ := qa.mk ((by rw [hg]; exact (qm (by repeat (first | (with_reducible first | exact HB.out | apply qc | apply qb | apply qd) | exact HB.out))) : w.heap.size ≤ gb281)); clear HB; have HB := n0_; have BK281 := n1_; have GW281 := n2_; have GE281 := n3_; clear n0_ n1_ n2_ n3_; clear hb hbox hg; have hcz4_0 : w3.cell? ⟨gb281, 0, none⟩ = some (.slice A0_0 l0_0.length c0_0) := (qi BK281.out 0).trans rfl; have hfz4_0 := qk BK281.out 0))
  go_ret
  exact ⟨by first | rfl | (simp [qq, qp] <;> rfl) | (simp [*, qq, qp] <;> rfl), by repeat (first | (with_reducible first | exact HB.out | apply qc | apply qb | apply qd | refine qe ?_ GE281.out) | exact HB.out)⟩
 ·rw [if_neg c2] at H
  have c2b0 : decide (12 < (l0_0.length : Int)) = false := decide_eq_false c2
  have c2b1 : decide (12 < l0_0.length) = false := decide_eq_false (by omega)
  clear c2
  have H' := qa.mk H
  clear H
  go_enter Tryd.func10, Tryd.ntmps10
  go_wp2_with (first | ((with_reducible refine zd (N := 1) rfl ?_); (try (refine xl (by rfl) ?_; dsimp only)); refine zg ?hg (N := 1) ?hd (cs := #[.slice A0_0 l0_0.length c0_0]) (t := 24) ?hr ?_; (case hd => rfl); (case hg => rfl); (case hr => first | (go_simp; done) | (go_simp; rfl)); intro gb281 hg w5 hbox hb; have n0_ := qa.mk (qj (by repeat (first | (with_reducible first | exact HB.out | apply qc | apply qb | apply qd) | exact HB.out)) hb); have n1_ := qa.mk (hbox); have n2_ := qa.mk ((by rw [hg]; exact (qm (by repeat (first | (with_reducible first | exact HB.out | apply qc | apply qb | apply qd) | exact HB.out))) : w.heap.size ≤ gb281)); have n3_ := qa.mk ((by rw [hg]; exact (qm (by repeat (first | (with_reducible first | exact HB.out | apply qc | apply qb | apply qd) | exact HB.out))) : w.heap.size ≤ gb281)); clear HB; have HB := n0_; have BK281 := n1_; have GW281 := n2_; have GE281 := n3_; clear n0_ n1_ n2_ n3_; clear hb hbox hg; have hcz6_0 : w5.cell? ⟨gb281, 0, none⟩ = some (.slice A0_0 l0_0.length c0_0) := (qi BK281.out 0).trans rfl; have hfz6_0 := qk BK281.out 0))
  go_loopg [14] k (fun kq v14 w' => ∃ (x14_1 : Int), v14 = .int .i64 x14_1 ∧ qa (qr.l0 kq l0_0 (l0_0.length : Int) x14_1 = some r) ∧ qa (kq ≤ k) ∧ qa (w'.heap[gb281]? = some (.cells #[(.slice A0_0 l0_0.length c0_0)] 24 (0, 0))) ∧ qa (Below w.heap.size w w'))
  case atStart => exact ⟨(0), (by first | rfl | (simp; done) | (simp [*]; done)), H', ⟨Nat.le_refl _⟩, ⟨by (with_reducible repeat (first | refine qg ?_ _ | refine qh ?_ | refine qf ?_ _)); exact BK281.out⟩, ⟨by repeat (first | (with_reducible first | exact HB.out | apply qc | apply qb | apply qd | refine qe ?_ GE281.out) | exact HB.out)⟩⟩
  case round =>
   clear H'
   (try clear c1); (try clear c2); (try clear c2b0); (try clear c2b1); (try clear p2); (try clear hcz4_0); (try clear hcz6_0); (try clear hfz4_0); try clear hfz6_0
   obtain ⟨x14_1, rfl, HA, HK1, BK281, HB⟩ := hrel
   cases gk with
   | zero => exact absurd HA.out (by simp [qr.l0])
   | succ k1 =>
    have H := HA.out
    clear HA
    simp only [qr.l0] at H
    by_cases c7 : x14_1 < (l0_0.length : Int)
    ·rw [if_pos c7] at H
     have c7b0 : decide (x14_1 < (l0_0.length : Int)) = true := decide_eq_true c7
     clear c7
     by_cases c8 : 0 ≤ x14_1
     ·rw [if_pos c8] at H
      have c8b0 : decide (0 ≤ x14_1) = true := decide_eq_true c8
      clear c8
      by_cases c9 : x14_1 < (l0_0.length : Int)
      ·rw [if_pos c9] at H
       have c9b0 : decide (x14_1 < (l0_0.length : Int)) = true := decide_eq_true c9
       clear c9
       by_cases c10 : ((xi l0_0 x14_1).length : Int) > 8
       ·rw [if_pos c10] at H
        have c10b0 : decide (8 < ((xi l0_0 x14_1).length : Int)) = true := decide_eq_true c10
        have c10b1 : decide (8 < (xi l0_0 x14_1).length) = true := decide_eq_true (by omega)
        clear c10
        obtain rfl := Option.some.inj H
        have p282 : 0 ≤ (x14_1 : Int) := of_decide_eq_true (by first | (with_reducible assumption) | assumption)
        have q282 : x14_1 < (l0_0.length : Int) := of_decide_eq_true (by first | (with_reducible assumption) | assumption)
        obtain ⟨ad282, A282_0, c282_0, e282, hx282_0, hl282_0, hi282_0⟩ := at_L4 HR0_0.out x14_1 p282 q282
        cases e282
        replace hx282_0 := (HB.out.cell (World.block_lt_of_cell? w _ hx282_0)).trans hx282_0
        have HR282_0 := qa.mk hi282_0
        have HC282_0 := qa.mk hl282_0
        clear hi282_0 hl282_0
        replace p282 := eq_true p282
        replace q282 := eq_true q282
        go_wp2
        go_ret
        exact ⟨by first | rfl | (simp [qq, qp] <;> rfl) | (simp [*, qq, qp] <;> rfl), by repeat (first | (with_reducible first | exact HB.out | apply qc | apply qb | apply qd | refine qe ?_ GE281.out) | exact HB.out)⟩
       ·rw [if_neg c10] at H
        have c10b0 : decide (8 < ((xi l0_0 x14_1).length : Int)) = false := decide_eq_false c10
        have c10b1 : decide (8 < (xi l0_0 x14_1).length) = false := decide_eq_false (by omega)
        clear c10
        have H' := qa.mk H
        clear H
        have p282 : 0 ≤ (x14_1 : Int) := of_decide_eq_true (by first | (with_reducible assumption) | assumption)
        have q282 : x14_1 < (l0_0.length : Int) := of_decide_eq_true (by first | (with_reducible assumption) | assumption)
        obtain ⟨ad282, A282_0, c282_0, e282, hx282_0, hl282_0, hi282_0⟩ := at_L4 HR0_0.out x14_1 p282 q282
        cases e282
        replace hx282_0 := (HB.out.cell (World.block_lt_of_cell? w _ hx282_0)).trans hx282_0
        have HR282_0 := qa.mk hi282_0
        have HC282_0 := qa.mk hl282_0
        clear hi282_0 hl282_0
        replace p282 := eq_true p282
        replace q282 := eq_true q282
        go_wp2
        go_loopg [23] k1 (fun kq v23 w' => ∃ (x23_2 : Int), v23 = .int .i64 x23_2 ∧ qa (qr.l1 kq l0_0 (l0_0.length : Int) x14_1 (xi l0_0 x14_1) ((xi l0_0 x14_1).length : Int) x23_2 = some r) ∧ qa (kq ≤ k1) ∧ qa (w'.heap[gb281]? = some (.cells #[(.slice (some ad282) l0_0.length c0_0)] 24 (0, 0))) ∧ qa (Below w.heap.size w w'))
        case atStart => exact ⟨(0), (by first | rfl | (simp; done) | (simp [*]; done)), H', ⟨Nat.le_refl _⟩, ⟨by (with_reducible repeat (first | refine qg ?_ _ | refine qh ?_ | refine qf ?_ _)); exact BK281.out⟩, ⟨by repeat (first | (with_reducible first | exact HB.out | apply qc | apply qb | apply qd | refine qe ?_ GE281.out) | exact HB.out)⟩⟩
        case round =>
         clear H'
         (try clear c1); (try clear c2); (try clear c2b0); (try clear c2b1); (try clear p2); (try clear q2); (try clear hx2); (try clear c7); (try clear c7b0); (try clear c8); (try clear c8b0); try clear c9
         (try clear c9b0); (try clear c10); (try clear c10b0); (try clear c10b1); (try clear hcz4_0); (try clear hcz6_0); (try clear hfz4_0); (try clear hfz6_0); (try clear hx282_0); try clear p2
         (try clear p282); try clear q282
         obtain ⟨x23_2, rfl, HA, HK2, BK281, HB⟩ := hrel
         cases gk with
         | zero => exact absurd HA.out (by simp [qr.l1])
         | succ k2 =>
          have H := HA.out
          clear HA
          simp only [qr.l1] at H
          by_cases c11 : x23_2 < ((xi l0_0 x14_1).length : Int)
          ·rw [if_pos c11] at H
           have c11b0 : decide (x23_2 < ((xi l0_0 x14_1).length : Int)) = true := decide_eq_true c11
           clear c11
           by_cases c12 : 0 ≤ x23_2
           ·rw [if_pos c12] at H
            have c12b0 : decide (0 ≤ x23_2) = true := decide_eq_true c12
            clear c12
            by_cases c13 : x23_2 < ((xi l0_0 x14_1).length : Int)
            ·rw [if_pos c13] at H
             have c13b0 : decide (x23_2 < ((xi l0_0 x14_1).length : Int)) = true := decide_eq_true c13
             clear c13
             by_cases c14 : (((qn (xi l0_0 x14_1) x23_2).f0).size : Int) > 200
             ·rw [if_pos c14] at H
              have c14b0 : decide (200 < (((qn (xi l0_0 x14_1) x23_2).f0).size : Int)) = true := decide_eq_true c14
              have c14b1 : decide (200 < ((qn (xi l0_0 x14_1) x23_2).f0).size) = true := decide_eq_true (by omega)
              clear c14
              obtain rfl := Option.some.inj H
              have p283 : 0 ≤ (x23_2 : Int) := of_decide_eq_true (by first | (with_reducible assumption) | assumption)
              have q283 : x23_2 < ((xi l0_0 x14_1).length : Int) := of_decide_eq_true (by first | (with_reducible assumption) | assumption)
              obtain ⟨ad283, e283, hx283_0, hx283_1, hx283_2⟩ := kv HR282_0.out x23_2 p283 q283
              cases e283
              replace hx283_0 := (HB.out.cell (World.block_lt_of_cell? w _ hx283_0)).trans hx283_0
              replace hx283_1 := (HB.out.cell (World.block_lt_of_cell? w _ hx283_1)).trans hx283_1
              replace hx283_2 := (HB.out.cell (World.block_lt_of_cell? w _ hx283_2)).trans hx283_2
              replace p283 := eq_true p283
              replace q283 := eq_true q283
              go_wp2_with (first | ((with_reducible refine zd (N := 6) rfl ?_); (try (refine xl (by rfl) ?_; dsimp only)); refine zg ?hg (N := 6) ?hd (cs := #[.string (⟨#[]⟩ : ByteArray), .int .i64 0, .string (⟨#[]⟩ : ByteArray)]) (t := 26) ?hr ?_; (case hd => rfl); (case hg => rfl); (case hr => first | (go_simp; done) | (go_simp; rfl)); intro gb284 hg w15 hbox hb; have n0_ := qa.mk (qt (g := gb281) (o := .cells #[.slice (some ad282) l0_0.length c0_0] 24 (0, 0)) (by (with_reducible repeat (first | refine qg ?_ _ | refine qh ?_ | refine qf ?_ _)); exact BK281.out) hb); have n1_ := qa.mk (qj (by repeat (first | (with_reducible first | exact HB.out | apply qc | apply qb | apply qd | refine qe ?_ GE281.out) | exact HB.out)) hb); have n2_ := qa.mk (hbox); have n3_ := qa.mk ((by rw [hg]; exact (qm (by repeat (first | (with_reducible first | exact HB.out | apply qc | apply qb | apply qd | refine qe ?_ GE281.out) | exact HB.out))) : w.heap.size ≤ gb284)); have n4_ := qa.mk ((by rw [hg]; exact (qm (by repeat (first | (with_reducible first | exact HB.out | apply qc | apply qb | apply qd | refine qe ?_ GE281.out) | exact HB.out))) : w.heap.size ≤ gb284)); have n5_ := qa.mk ((by rw [hg]; exact Nat.ne_of_lt (zl (g := gb281) (o := .cells #[.slice (some ad282) l0_0.length c0_0] 24 (0, 0)) (by (with_reducible repeat (first | refine qg ?_ _ | refine qh ?_ | refine qf ?_ _)); exact BK281.out)) : gb281 ≠ gb284)); have n6_ := qa.mk ((by rw [hg]; exact Nat.ne_of_gt (zl (g := gb281) (o := .cells #[.slice (some ad282) l0_0.length c0_0] 24 (0, 0)) (by (with_reducible repeat (first | refine qg ?_ _ | refine qh ?_ | refine qf ?_ _)); exact BK281.out)) : gb284 ≠ gb281)); clear BK281; clear HB; have BK281 := n0_; have HB := n1_; have BK284 := n2_; have GW284 := n3_; have GE284 := n4_; have NB281_284 := n5_; have NB284_281 := n6_; clear n0_ n1_ n2_ n3_ n4_ n5_ n6_; clear hb hbox hg; have hnb16 := NB284_281.out; have hnc16 := NB281_284.out; have hcz17_0 : w15.cell? ⟨gb284, 0, none⟩ = some (.string (⟨#[]⟩ : ByteArray)) := (qi BK284.out 0).trans rfl; have hcz17_1 : w15.cell? ⟨gb284, 1, none⟩ = some (.int .i64 0) := (qi BK284.out 1).trans rfl; have hcz17_2 : w15.cell? ⟨gb284, 2, none⟩ = some (.string (⟨#[]⟩ : ByteArray)) := (qi BK284.out 2).trans rfl; have hfz17_0 := qk BK284.out 0; have hfz17_1 := qk BK284.out 1; have hfz17_2 := qk BK284.out 2))
              go_ret
              exact ⟨by first | rfl | (simp [qq, qp] <;> rfl) | (simp [*, qq, qp] <;> rfl), by repeat (first | (with_reducible first | exact HB.out | apply qc | apply qb | apply qd | refine qe ?_ GE281.out | refine qe ?_ GE284.out) | exact HB.out)⟩
             ·rw [if_neg c14] at H
              have c14b0 : decide (200 < (((qn (xi l0_0 x14_1) x23_2).f0).size : Int)) = false := decide_eq_false c14
              have c14b1 : decide (200 < ((qn (xi l0_0 x14_1) x23_2).f0).size) = false := decide_eq_false (by omega)
              clear c14
              by_cases c18 : (((qn (xi l0_0 x14_1) x23_2).f2).size : Int) > 200
              ·rw [if_pos c18] at H
               have c18b0 : decide (200 < (((qn (xi l0_0 x14_1) x23_2).f2).size : Int)) = true := decide_eq_true c18
               have c18b1 : decide (200 < ((qn (xi l0_0 x14_1) x23_2).f2).size) = true := decide_eq_true (by omega)
               clear c18
               obtain rfl := Option.some.inj H
               have p283 : 0 ≤ (x23_2 : Int) := of_decide_eq_true (by first | (with_reducible assumption) | assumption)
               have q283 : x23_2 < ((xi l0_0 x14_1).length : Int) := of_decide_eq_true (by first | (with_reducible assumption) | assumption)
               obtain ⟨ad283, e283, hx283_0, hx283_1, hx283_2⟩ := kv HR282_0.out x23_2 p283 q283
               cases e283
               replace hx283_0 := (HB.out.cell (World.block_lt_of_cell? w _ hx283_0)).trans hx283_0
               replace hx283_1 := (HB.out.cell (World.block_lt_of_cell? w _ hx283_1)).trans hx283_1
               replace hx283_2 := (HB.out.cell (World.block_lt_of_cell? w _ hx283_2)).trans hx283_2
               replace p283 := eq_true p283
               replace q283 := eq_true q283
               go_wp2_with (first | ((with_reducible refine zd (N := 6) rfl ?_); (try (refine xl (by rfl) ?_; dsimp only)); refine zg ?hg (N := 6) ?hd (cs := #[.string (⟨#[]⟩ : ByteArray), .int .i64 0, .string (⟨#[]⟩ : ByteArray)]) (t := 26) ?hr ?_; (case hd => rfl); (case hg => rfl); (case hr => first | (go_simp; done) | (go_simp; rfl)); intro gb284 hg w19 hbox hb; have n0_ := qa.mk (qt (g := gb281) (o := .cells #[.slice (some ad282) l0_0.length c0_0] 24 (0, 0)) (by (with_reducible repeat (first | refine qg ?_ _ | refine qh ?_ | refine qf ?_ _)); exact BK281.out) hb); have n1_ := qa.mk (qj (by repeat (first | (with_reducible first | exact HB.out | apply qc | apply qb | apply qd | refine qe ?_ GE281.out) | exact HB.out)) hb); have n2_ := qa.mk (hbox); have n3_ := qa.mk ((by rw [hg]; exact (qm (by repeat (first | (with_reducible first | exact HB.out | apply qc | apply qb | apply qd | refine qe ?_ GE281.out) | exact HB.out))) : w.heap.size ≤ gb284)); have n4_ := qa.mk ((by rw [hg]; exact (qm (by repeat (first | (with_reducible first | exact HB.out | apply qc | apply qb | apply qd | refine qe ?_ GE281.out) | exact HB.out))) : w.heap.size ≤ gb284)); have n5_ := qa.mk ((by rw [hg]; exact Nat.ne_of_lt (zl (g := gb281) (o := .cells #[.slice (some ad282) l0_0.length c0_0] 24 (0, 0)) (by (with_reducible repeat (first | refine qg ?_ _ | refine qh ?_ | refine qf ?_ _)); exact BK281.out)) : gb281 ≠ gb284)); have n6_ := qa.mk ((by rw [hg]; exact Nat.ne_of_gt (zl (g := gb281) (o := .cells #[.slice (some ad282) l0_0.length c0_0] 24 (0, 0)) (by (with_reducible repeat (first | refine qg ?_ _ | refine qh ?_ | refine qf ?_ _)); exact BK281.out)) : gb284 ≠ gb281)); clear BK281; clear HB; have BK281 := n0_; have HB := n1_; have BK284 := n2_; have GW284 := n3_; have GE284 := n4_; have NB281_284 := n5_; have NB284_281 := n6_; clear n0_ n1_ n2_ n3_ n4_ n5_ n6_; clear hb hbox hg; have hnb20 := NB284_281.out; have hnc20 := NB281_284.out; have hcz21_0 : w19.cell? ⟨gb284, 0, none⟩ = some (.string (⟨#[]⟩ : ByteArray)) := (qi BK284.out 0).trans rfl; have hcz21_1 : w19.cell? ⟨gb284, 1, none⟩ = some (.int .i64 0) := (qi BK284.out 1).trans rfl; have hcz21_2 : w19.cell? ⟨gb284, 2, none⟩ = some (.string (⟨#[]⟩ : ByteArray)) := (qi BK284.out 2).trans rfl; have hfz21_0 := qk BK284.out 0; have hfz21_1 := qk BK284.out 1; have hfz21_2 := qk BK284.out 2))
               go_ret
               exact ⟨by first | rfl | (simp [qq, qp] <;> rfl) | (simp [*, qq, qp] <;> rfl), by repeat (first | (with_reducible first | exact HB.out | apply qc | apply qb | apply qd | refine qe ?_ GE281.out | refine qe ?_ GE284.out) | exact HB.out)⟩
              ·rw [if_neg c18] at H
               have c18b0 : decide (200 < (((qn (xi l0_0 x14_1) x23_2).f2).size : Int)) = false := decide_eq_false c18
               have c18b1 : decide (200 < ((qn (xi l0_0 x14_1) x23_2).f2).size) = false := decide_eq_false (by omega)
               clear c18
               have H' := qa.mk H
               clear H
               have p283 : 0 ≤ (x23_2 : Int) := of_decide_eq_true (by first | (with_reducible assumption) | assumption)
               have q283 : x23_2 < ((xi l0_0 x14_1).length : Int) := of_decide_eq_true (by first | (with_reducible assumption) | assumption)
               obtain ⟨ad283, e283, hx283_0, hx283_1, hx283_2⟩ := kv HR282_0.out x23_2 p283 q283
               cases e283
               replace hx283_0 := (HB.out.cell (World.block_lt_of_cell? w _ hx283_0)).trans hx283_0
               replace hx283_1 := (HB.out.cell (World.block_lt_of_cell? w _ hx283_1)).trans hx283_1
               replace hx283_2 := (HB.out.cell (World.block_lt_of_cell? w _ hx283_2)).trans hx283_2
               replace p283 := eq_true p283
               replace q283 := eq_true q283
               go_wp2_with (first | ((with_reducible refine zd (N := 6) rfl ?_); (try (refine xl (by rfl) ?_; dsimp only)); refine zg ?hg (N := 6) ?hd (cs := #[.string (⟨#[]⟩ : ByteArray), .int .i64 0, .string (⟨#[]⟩ : ByteArray)]) (t := 26) ?hr ?_; (case hd => rfl); (case hg => rfl); (case hr => first | (go_simp; done) | (go_simp; rfl)); intro gb284 hg w22 hbox hb; have n0_ := qa.mk (qt (g := gb281) (o := .cells #[.slice (some ad282) l0_0.length c0_0] 24 (0, 0)) (by (with_reducible repeat (first | refine qg ?_ _ | refine qh ?_ | refine qf ?_ _)); exact BK281.out) hb); have n1_ := qa.mk (qj (by repeat (first | (with_reducible first | exact HB.out | apply qc | apply qb | apply qd | refine qe ?_ GE281.out) | exact HB.out)) hb); have n2_ := qa.mk (hbox); have n3_ := qa.mk ((by rw [hg]; exact (qm (by repeat (first | (with_reducible first | exact HB.out | apply qc | apply qb | apply qd | refine qe ?_ GE281.out) | exact HB.out))) : w.heap.size ≤ gb284)); have n4_ := qa.mk ((by rw [hg]; exact (qm (by repeat (first | (with_reducible first | exact HB.out | apply qc | apply qb | apply qd | refine qe ?_ GE281.out) | exact HB.out))) : w.heap.size ≤ gb284)); have n5_ := qa.mk ((by rw [hg]; exact Nat.ne_of_lt (zl (g := gb281) (o := .cells #[.slice (some ad282) l0_0.length c0_0] 24 (0, 0)) (by (with_reducible repeat (first | refine qg ?_ _ | refine qh ?_ | refine qf ?_ _)); exact BK281.out)) : gb281 ≠ gb284)); have n6_ := qa.mk ((by rw [hg]; exact Nat.ne_of_gt (zl (g := gb281) (o := .cells #[.slice (some ad282) l0_0.length c0_0] 24 (0, 0)) (by (with_reducible repeat (first | refine qg ?_ _ | refine qh ?_ | refine qf ?_ _)); exact BK281.out)) : gb284 ≠ gb281)); clear BK281; clear HB; have BK281 := n0_; have HB := n1_; have BK284 := n2_; have GW284 := n3_; have GE284 := n4_; have NB281_284 := n5_; have NB284_281 := n6_; clear n0_ n1_ n2_ n3_ n4_ n5_ n6_; clear hb hbox hg; have hnb23 := NB284_281.out; have hnc23 := NB281_284.out; have hcz24_0 : w22.cell? ⟨gb284, 0, none⟩ = some (.string (⟨#[]⟩ : ByteArray)) := (qi BK284.out 0).trans rfl; have hcz24_1 : w22.cell? ⟨gb284, 1, none⟩ = some (.int .i64 0) := (qi BK284.out 1).trans rfl; have hcz24_2 : w22.cell? ⟨gb284, 2, none⟩ = some (.string (⟨#[]⟩ : ByteArray)) := (qi BK284.out 2).trans rfl; have hfz24_0 := qk BK284.out 0; have hfz24_1 := qk BK284.out 1; have hfz24_2 := qk BK284.out 2))
               go_roundg k2
               case measure => have := HK1.out; have := HK2.out; omega
               case rel => exact ⟨(wrap64 (x23_2 + 1)), (by first | rfl | (simp; done) | (simp [*]; done)), H', ⟨by have := HK1.out; have := HK2.out; omega⟩, ⟨by (with_reducible repeat (first | refine qg ?_ _ | refine qh ?_ | refine qf ?_ _)); refine xd ?_ NB281_284.out _; (with_reducible repeat (first | refine qg ?_ _ | refine qh ?_ | refine qf ?_ _)); refine xd ?_ NB281_284.out _; (with_reducible repeat (first | refine qg ?_ _ | refine qh ?_ | refine qf ?_ _)); refine xd ?_ NB281_284.out _; (with_reducible repeat (first | refine qg ?_ _ | refine qh ?_ | refine qf ?_ _)); exact BK281.out⟩, ⟨by repeat (first | (with_reducible first | exact HB.out | apply qc | apply qb | apply qd | refine qe ?_ GE281.out | refine qe ?_ GE284.out) | exact HB.out)⟩⟩
            ·rw [if_neg c13] at H
             exact absurd H (by simp)
           ·rw [if_neg c12] at H
            exact absurd H (by simp)
          ·rw [if_neg c11] at H
           have c11b0 : decide (x23_2 < ((xi l0_0 x14_1).length : Int)) = false := decide_eq_false c11
           clear c11
           have H' := qa.mk H
           clear H
           go_wp2
           go_roundg k2
           case measure => have := HK1.out; have := HK2.out; omega
           case rel => exact ⟨(wrap64 (x14_1 + 1)), (by first | rfl | (simp; done) | (simp [*]; done)), H', ⟨by have := HK1.out; have := HK2.out; omega⟩, ⟨by (with_reducible repeat (first | refine qg ?_ _ | refine qh ?_ | refine qf ?_ _)); exact BK281.out⟩, ⟨by repeat (first | (with_reducible first | exact HB.out | apply qc | apply qb | apply qd | refine qe ?_ GE281.out) | exact HB.out)⟩⟩
      ·rw [if_neg c9] at H
       exact absurd H (by simp)
     ·rw [if_neg c8] at H
      exact absurd H (by simp)
    ·rw [if_neg c7] at H
     have c7b0 : decide (x14_1 < (l0_0.length : Int)) = false := decide_eq_false c7
     clear c7
     obtain rfl := Option.some.inj H
     go_wp2
     go_ret
     exact ⟨by first | rfl | (simp [qq, qp] <;> rfl) | (simp [*, qq, qp] <;> rfl), by repeat (first | (with_reducible first | exact HB.out | apply qc | apply qb | apply qd | refine qe ?_ GE281.out) | exact HB.out)⟩
end Go.Proofs.YtjhlinifnjoefaaDoor.C
end
section
namespace Go.Proofs.YtjhlinifnjoefaaDoor.C
open Go.RowKit Go.Proofs.YtjhlinifnjoefaaDoorW.PrintWords Go.Proofs.YtjhlinifnjoefaaDoorW.PrintLast Go.Proofs.YtjhlinifnjoefaaDoorW.PrintMore
attribute [local go_sem] xr xp xw xx xf xe xq xo
set_option linter.unusedVariables false
set_option linter.unusedSimpArgs false
def zu (w0 W : World) (g : Nat) (f0 : List Int) (f1 : Int) : Prop := ∃ A0 c0, W.heap[g]? = some (.cells #[.slice A0 f0.length c0, .int .i64 f1] 51 (0, 0)) ∧ w0.heap.size ≤ g ∧ Kd.C (Kd.int .i64) w0 A0 f0.length f0
theorem zu.grown {w0 W : World} {g : Nat} {f0 : List Int} {f1 : Int} {W1 : World} {row : Option Nat} (h : zu w0 W g f0 f1) (hw : W.grownBy W1 row) (hne : some g ≠ row) : zu w0 W1 g f0 f1 := by
 obtain ⟨A0, c0, hb, hg, hr0⟩ := h
 exact ⟨A0, c0, kz hb hw hne, hg, hr0⟩
theorem zu.kept {w0 W : World} {g : Nat} {f0 : List Int} {f1 : Int} {W1 : World} {S : Nat → Prop} (h : zu w0 W g f0 f1) (hk : Kept W W1 S) (hne : ¬ S g) : zu w0 W1 g f0 f1 := by
 obtain ⟨A0, c0, hb, hg, hr0⟩ := h
 exact ⟨A0, c0, blk_kept hb hk hne, hg, hr0⟩
theorem zu.below {w0 W : World} {g : Nat} {f0 : List Int} {f1 : Int} {W1 : World} (h : zu w0 W g f0 f1) (hw : Below W.heap.size W W1) : zu w0 W1 g f0 f1 := h.grown (grown_of_below hw none) (by simp)
theorem zu.alloc {w0 W : World} {g : Nat} {f0 : List Int} {f1 : Int} (h : zu w0 W g f0 f1) (o : Obj) : zu w0 (W.alloc o) g f0 f1 := h.below (qc (Below.refl _ _) o)
theorem zu.drewN {w0 W : World} {g : Nat} {f0 : List Int} {f1 : Int} (h : zu w0 W g f0 f1) (m : Nat) : zu w0 (W.drewN m) g f0 f1 := h
theorem zu.drew {w0 W : World} {g : Nat} {f0 : List Int} {f1 : Int} (h : zu w0 W g f0 f1) : zu w0 W.drew g f0 f1 := h
theorem zu.at_ {w0 W : World} {g : Nat} {f0 : List Int} {f1 : Int} {w' : World} {m : Nat} (hq : W.drewN m = w') (h : zu w0 W g f0 f1) : zu w0 w' g f0 f1 := by subst hq; exact zu.drewN h m
theorem zu.apart {w0 W : World} {g : Nat} {f0 : List Int} {f1 : Int} {α : Type} {d : Kd α} {e : Nat} {base : Nat} {ok : Nat → Prop} {v : Value} {xs : List α} (h : zu w0 W g f0 f1) (ho : d.R e W base ok v xs) (ht : ∀ q, q ∈ e :: d.E → q ≠ 51) : d.R e W base (fun k => ok k ∧ k ≠ g) v xs := by
 obtain ⟨A0, c0, hb, hg, hr0⟩ := h
 exact Kd.R_types ho hb ht
theorem zu.own_ne {w0 W : World} {g : Nat} {f0 : List Int} {f1 : Int} {α : Type} {d : Kd α} {e : Nat} {base : Nat} {ok : Nat → Prop} {v : Value} {xs : List α} (h : zu w0 W g f0 f1) (ho : d.R e W base ok v xs) (ht : e ≠ 51) : some g ≠ v.ownBlock := by
 obtain ⟨A0, c0, hb, hg, hr0⟩ := h
 exact Kd.R_ne ho hb ht
theorem zu.apartS {w0 W : World} {g : Nat} {f0 : List Int} {f1 : Int} {α : Type} {d : Kd α} {e : Nat} {base : Nat} {ok : Nat → Prop} {v : Value} {xs : List α} (h : zu w0 W g f0 f1) (ho : d.S e W base ok v xs) (ht : ∀ q, q ∈ e :: d.E → q ≠ 51) : d.S e W base (fun k => ok k ∧ k ≠ g) v xs := by
 obtain ⟨A0, c0, hb, hg, hr0⟩ := h
 exact Kd.kp ho hb ht
theorem zu.lt {w0 W : World} {g : Nat} {f0 : List Int} {f1 : Int} (h : zu w0 W g f0 f1) : g < W.heap.size := by
 obtain ⟨A0, c0, hb, hg, hr0⟩ := h
 exact zl hb
theorem zu.ge {w0 W : World} {g : Nat} {f0 : List Int} {f1 : Int} (h : zu w0 W g f0 f1) : w0.heap.size ≤ g := by
 obtain ⟨A0, c0, hb, hg, hr0⟩ := h
 exact hg
theorem zu.far {w0 W : World} {g : Nat} {f0 : List Int} {f1 : Int} {p : Addr} (h : zu w0 W g f0 f1) (hne : g ≠ p.block) (u : Value) : zu w0 (W.setCell p u) g f0 f1 := by
 obtain ⟨A0, c0, hb, hg, hr0⟩ := h
 exact ⟨A0, c0, xd hb hne u, hg, hr0⟩
theorem cellS51_0 {W : World} {g : Nat} {A0 : Option Addr} {c0 : Nat} {f0 : List Int} {f1 : Int} (h : W.heap[g]? = some (.cells #[.slice A0 f0.length c0, .int .i64 f1] 51 (0, 0))) : W.cell? ⟨g, 0, none⟩ = some (.slice A0 f0.length c0) := (qi h 0).trans rfl
theorem cellS51_1 {W : World} {g : Nat} {A0 : Option Addr} {c0 : Nat} {f0 : List Int} {f1 : Int} (h : W.heap[g]? = some (.cells #[.slice A0 f0.length c0, .int .i64 f1] 51 (0, 0))) : W.cell? ⟨g, 1, none⟩ = some (.int .i64 f1) := (qi h 1).trans rfl
theorem zu.set_1 {w0 W : World} {g : Nat} {f0 : List Int} {f1 : Int} (h : zu w0 W g f0 f1) (x : Int) : zu w0 (W.setCell ⟨g, 1, none⟩ (.int .i64 x)) g f0 x := by
 obtain ⟨A0, c0, hb, hg, hr0⟩ := h
 exact ⟨A0, c0, by simpa using blk_set hb 1 (.int .i64 x), hg, hr0⟩
def certpathmade_New.f (l0 : List Int) : Option (List Int × Int) := some (l0, 0)
set_option maxHeartbeats 8000000 in
set_option maxRecDepth 100000 in
theorem certpathmade_New.calls (A0 : Option Addr) (c0 : Nat) (l0 : List Int) (r1 : List Int) (r2 : Int) (w0 w : World) (hB : Below w0.heap.size w0 w) (hr0 : Kd.C (Kd.int .i64) w0 A0 l0.length l0) (hc0 : l0.length ≤ c0) (h : certpathmade_New.f l0 = some (r1, r2)) :
  Calls Tryd.prog 11 #[.slice A0 l0.length c0] w fun e w' => ∃ g_ : Nat, e = .returned (.pointer (some ⟨g_, 0, none⟩)) ∧ zu w0 w' g_ r1 r2 ∧ Below w0.heap.size w0 w' ∧ Below w.heap.size w w' := by
 have hu51 := Tryd.underlying51
 have HR0 := qa.mk hr0
 have HC0 := qa.mk hc0
 clear hr0 hc0
 have HBW := qa.mk (Below.refl w.heap.size w)
 have HW0 := qa.mk hB.size
 have HB := qa.mk hB
 clear hB
 have H : (some (l0, 0)) = some (r1, r2) := h
 clear h
 simp only [Option.some.injEq, Prod.mk.injEq] at H
 obtain ⟨rfl, rfl⟩ := H
 go_enter Tryd.func11, Tryd.ntmps11
 go_wp2_with (first | ((with_reducible refine zd (N := 5) rfl ?_); refine zg ?hg (N := 5) ?hd (cs := #[.slice A0 l0.length c0, .int .i64 0]) (t := 51) ?hr ?_; (case hd => rfl); (case hg => rfl); (case hr => first | (go_simp; done) | (go_simp; rfl)); intro gb285 hg w2 hbox hb; have n0_ := qa.mk (qj HBW.out hb); have n1_ := qa.mk (qj (by repeat (first | (with_reducible first | exact HB.out | apply qc | apply qb | apply qd) | exact HB.out)) hb); have n2_ := qa.mk (hbox); have n3_ := qa.mk ((by rw [hg]; exact (qm (by repeat (first | (with_reducible first | exact HBW.out | apply qc | apply qb | apply qd) | exact HBW.out))) : w.heap.size ≤ gb285)); have n4_ := qa.mk ((Nat.le_trans HW0.out (by rw [hg]; exact (qm (by repeat (first | (with_reducible first | exact HBW.out | apply qc | apply qb | apply qd) | exact HBW.out))) : w.heap.size ≤ gb285) : w0.heap.size ≤ gb285)); clear HBW; clear HB; have HBW := n0_; have HB := n1_; have BK285 := n2_; have GW285 := n3_; have GE285 := n4_; clear n0_ n1_ n2_ n3_ n4_; clear hb hbox hg))
 go_ret
 exact ⟨_, rfl, (show zu w0 _ gb285 l0 0 from ⟨_, _, by (with_reducible repeat (first | refine qg ?_ _ | refine qh ?_ | refine qf ?_ _)); exact BK285.out, GE285.out, HR0.out⟩), by repeat (first | (with_reducible first | exact HB.out | apply qc | apply qb | apply qd | refine qe ?_ GE285.out) | exact HB.out), by repeat (first | (with_reducible first | exact HBW.out | apply qc | apply qb | apply qd | refine qe ?_ GW285.out) | exact HBW.out)⟩
def xt.f (s0_0 : List Int) (s0_1 : Int) (a1 : Int) : Option (Int × Int) := if s0_1 ≥ (s0_0.length : Int) then (some (0, s0_1)) else (if 0 ≤ (wrap64 ((wrap64 (s0_1 + 1)) - 1)) then (if (wrap64 ((wrap64 (s0_1 + 1)) - 1)) < (s0_0.length : Int) then (if a1 = 0 then (none) else (some (Int.tmod (wrap64 ((Int.tmod (rd s0_0 (wrap64 ((wrap64 (s0_1 + 1)) - 1))) a1) + a1)) a1, wrap64 (s0_1 + 1)))) else (none)) else (none))
set_option maxHeartbeats 8000000 in
set_option maxRecDepth 100000 in
theorem xt.calls (g : Nat) (s0_0 : List Int) (s0_1 : Int) (a1 : Int) (r1 : Int) (r2 : Int) (w0 w : World) (hI : zu w0 w g s0_0 s0_1) (hB : Below w0.heap.size w0 w) (h : xt.f s0_0 s0_1 a1 = some (r1, r2)) :
  Calls Tryd.prog 14 #[.pointer (some ⟨g, 0, none⟩), .int .i64 a1] w fun e w' => e = .returned (.int .i64 r1) ∧ zu w0 w' g s0_0 r2 ∧ Below w0.heap.size w0 w' ∧ KeepBut w w' g none := by
 have HI0 := qa.mk hI
 have HK := qa.mk (KeepBut.refl w g none)
 have HL := qa.mk hB.size
 clear hI
 have HW0 := qa.mk hB.size
 have HB := qa.mk hB
 clear hB
 have H : (if s0_1 ≥ (s0_0.length : Int) then (some (0, s0_1)) else (if 0 ≤ (wrap64 ((wrap64 (s0_1 + 1)) - 1)) then (if (wrap64 ((wrap64 (s0_1 + 1)) - 1)) < (s0_0.length : Int) then (if a1 = 0 then (none) else (some (Int.tmod (wrap64 ((Int.tmod (rd s0_0 (wrap64 ((wrap64 (s0_1 + 1)) - 1))) a1) + a1)) a1, wrap64 (s0_1 + 1)))) else (none)) else (none))) = some (r1, r2) := h
 clear h
 by_cases c3 : s0_1 ≥ (s0_0.length : Int)
 ·rw [if_pos c3] at H
  have c3b0 : decide ((s0_0.length : Int) ≤ s0_1) = true := decide_eq_true c3
  clear c3
  simp only [Option.some.injEq, Prod.mk.injEq] at H
  obtain ⟨rfl, rfl⟩ := H
  obtain ⟨ASz4_0, cSz4_0, HGz4, hgz4, HSz4_0⟩ := HI0.out
  have hcz4_0 := cellS51_0 HGz4
  have hcz4_1 := cellS51_1 HGz4
  have hfz4_1 := qk HGz4 1
  clear HGz4 hgz4
  go_enter Tryd.func14, Tryd.ntmps14
  go_wp2
  repeat (go_quiet (fail); try go_wp2)
  go_ret
  exact ⟨by first | rfl | (simp [qq, qp] <;> rfl) | (simp [*, qq, qp] <;> rfl), by repeat (first | (with_reducible first | exact HI0.out | apply zu.alloc | apply zu.drewN | apply zu.drew | apply zu.set_1) | exact HI0.out), by repeat (first | (with_reducible first | exact HB.out | apply qc | apply qb | apply qd | refine qe ?_ (zu.ge HI0.out)) | exact HB.out), by repeat (first | (with_reducible first | exact HK.out | apply KeepBut.set_ | apply ja | apply keep_drew | apply k9) | exact HK.out)⟩
 ·rw [if_neg c3] at H
  have c3b0 : decide ((s0_0.length : Int) ≤ s0_1) = false := decide_eq_false c3
  clear c3
  obtain ⟨ji5, hji5⟩ : ∃ j_ : Int, (wrap64 ((wrap64 (s0_1 + 1)) - 1)) = j_ := ⟨_, rfl⟩
  replace H : (if 0 ≤ (ji5) then (if (ji5) < (s0_0.length : Int) then (if a1 = 0 then (none) else (some (Int.tmod (wrap64 ((Int.tmod (rd s0_0 (ji5)) a1) + a1)) a1, wrap64 (s0_1 + 1)))) else (none)) else (none)) = some (r1, r2) := by first | (rw [hji5] at H; exact H) | (simp only [hji5] at H ⊢; exact H)
  have hji5w : (IntKind.i64.wrap ((wrap64 (s0_1 + 1)) - 1)) = ji5 := (qy _).trans hji5
  by_cases c6 : 0 ≤ (ji5)
  ·rw [if_pos c6] at H
   have c6b0 : decide (0 ≤ (ji5)) = true := decide_eq_true c6
   clear c6
   by_cases c7 : (ji5) < (s0_0.length : Int)
   ·rw [if_pos c7] at H
    have c7b0 : decide ((ji5) < (s0_0.length : Int)) = true := decide_eq_true c7
    clear c7
    by_cases c8 : a1 = 0
    ·rw [if_pos c8] at H
     exact absurd H (by simp)
    ·rw [if_neg c8] at H
     have c8b0 : (a1 == 0) = false := beq_eq_false_iff_ne.mpr c8
     have c8b1 : (a1 != 0) = true := bne_iff_ne.mpr c8
     simp only [Option.some.injEq, Prod.mk.injEq] at H
     obtain ⟨rfl, rfl⟩ := H
     obtain ⟨ASz9_0, cSz9_0, HGz9, hgz9, HSz9_0⟩ := HI0.out
     have hcz9_0 := cellS51_0 HGz9
     have hcz9_1 := cellS51_1 HGz9
     have hfz9_1 := qk HGz9 1
     clear HGz9 hgz9
     have p286 : 0 ≤ ((ji5) : Int) := of_decide_eq_true (by first | (with_reducible assumption) | assumption)
     have q286 : (ji5) < (s0_0.length : Int) := of_decide_eq_true (by first | (with_reducible assumption) | assumption)
     obtain ⟨ad286, e286, hx286_0⟩ := Kd.at_int HSz9_0 (ji5) p286 q286
     cases e286
     have hn286_0 : ad286.block ≠ g := Nat.ne_of_lt (Nat.lt_of_lt_of_le (by have := World.block_lt_of_cell? _ _ hx286_0; first | rwa [add_block] at this | exact this) (zu.ge HI0.out))
     replace hx286_0 := pw_cell_below HB.out hx286_0
     replace hx286_0 := (cell_far (p := ⟨g, 1, none⟩) (by first | (rw [add_block]; exact hn286_0) | (show (Addr.add _ _).block ≠ _; rw [add_block]; exact hn286_0) | exact hn286_0) (.int .i64 (wrap64 (s0_1 + 1)))).trans hx286_0
     (try have hy286_0 := fun (n_ : Nat) => (show (((w.drewN n_).setCell ⟨g, 1, none⟩ (.int .i64 (wrap64 (s0_1 + 1))))).cell? _ = some _ from hx286_0))
     clear hn286_0
     replace p286 := eq_true p286
     replace q286 := eq_true q286
     go_enter Tryd.func14, Tryd.ntmps14
     go_wp2
     repeat (go_quiet (fail); try go_wp2)
     go_ret
     exact ⟨by first | rfl | (simp [qq, qp] <;> rfl) | (simp only [← hji5]; first | rfl | (simp [qq, qp] <;> rfl)) | (simp [*, qq, qp] <;> rfl), by repeat (first | (with_reducible first | exact HI0.out | apply zu.alloc | apply zu.drewN | apply zu.drew | apply zu.set_1) | exact HI0.out), by repeat (first | (with_reducible first | exact HB.out | apply qc | apply qb | apply qd | refine qe ?_ (zu.ge HI0.out)) | exact HB.out), by repeat (first | (with_reducible first | exact HK.out | apply KeepBut.set_ | apply ja | apply keep_drew | apply k9) | exact HK.out)⟩
   ·rw [if_neg c7] at H
    exact absurd H (by simp)
  ·rw [if_neg c6] at H
   exact absurd H (by simp)
def jc.f (s0_0 : List Int) (s0_1 : Int) : Option (ByteArray × Int × ByteArray × Int) := (some (([(⟨(⟨#[50, 46, 53, 46, 52, 46, 51]⟩ : ByteArray), 12, (⟨#[65, 110, 110]⟩ : ByteArray)⟩ : S26), (⟨(⟨#[50, 46, 53, 46, 52, 46, 51]⟩ : ByteArray), 19, (⟨#[32, 97, 110, 110]⟩ : ByteArray)⟩ : S26), (⟨(⟨#[50, 46, 53, 46, 52, 46, 51]⟩ : ByteArray), 12, (⟨#[103, 114, 195, 182, 195, 159, 101]⟩ : ByteArray)⟩ : S26), (⟨(⟨#[50, 46, 53, 46, 52, 46, 54]⟩ : ByteArray), 19, (⟨#[85, 83]⟩ : ByteArray)⟩ : S26), (⟨(⟨#[50, 46, 53, 46, 52, 46, 49, 48]⟩ : ByteArray), 19, (⟨#[69, 120, 97, 109, 112, 108, 101, 32, 32, 67, 111, 114, 112]⟩ : ByteArray)⟩ : S26), (⟨(⟨#[50, 46, 53, 46, 52, 46, 49, 48]⟩ : ByteArray), 12, (⟨#[101, 120, 97, 109, 112, 108, 101, 32, 99, 111, 114, 112]⟩ : ByteArray)⟩ : S26), (⟨(⟨#[50, 46, 53, 46, 52, 46, 49, 49]⟩ : ByteArray), 22, (⟨#[97, 44, 98, 43, 99, 61, 100, 92, 101]⟩ : ByteArray)⟩ : S26), (⟨(⟨#[48, 46, 57, 46, 50, 51, 52, 50, 46, 49, 57, 50, 48, 48, 51, 48, 48, 46, 49, 48, 48, 46, 49, 46, 50, 53]⟩ : ByteArray), 22, (⟨#[111, 114, 103]⟩ : ByteArray)⟩ : S26), (⟨(⟨#[49, 46, 50, 46, 56, 52, 48, 46, 49, 49, 51, 53, 52, 57, 46, 49, 46, 57, 46, 49]⟩ : ByteArray), 22, (⟨#[97, 110, 110, 64, 101, 120, 97, 109, 112, 108, 101, 46, 111, 114, 103]⟩ : ByteArray)⟩ : S26), (⟨(⟨#[49, 46, 50, 46, 56, 52, 48, 46, 49, 49, 51, 53, 52, 57, 46, 49, 46, 57, 46, 49]⟩ : ByteArray), 22, (⟨#[110, 111, 32, 97, 100, 100, 114, 101, 115, 115]⟩ : ByteArray)⟩ : S26), (⟨(⟨#[50, 46, 53, 46, 52, 46, 57, 57]⟩ : ByteArray), 19, (⟨#[120]⟩ : ByteArray)⟩ : S26), (⟨(⟨#[50, 46, 53, 46, 52, 46, 55]⟩ : ByteArray), 12, (⟨#[76]⟩ : ByteArray)⟩ : S26)] : List (S26)) : List (S26))).bind fun y288 => ((xt.f s0_0 s0_1 12).bind fun bt291 => (if 0 ≤ bt291.1 then (if bt291.1 < (y288.length : Int) then (some ((qn y288 bt291.1).f0, (qn y288 bt291.1).f1, (qn y288 bt291.1).f2, bt291.2)) else (none)) else (none)))
set_option maxHeartbeats 8000000 in
set_option maxRecDepth 100000 in
theorem jc.calls (g : Nat) (s0_0 : List Int) (s0_1 : Int) (r1 : ByteArray) (r2 : Int) (r3 : ByteArray) (r4 : Int) (w0 w : World) (hI : zu w0 w g s0_0 s0_1) (hB : Below w0.heap.size w0 w) (h : jc.f s0_0 s0_1 = some (r1, r2, r3, r4)) :
  Calls Tryd.prog 22 #[.pointer (some ⟨g, 0, none⟩)] w fun e w' => e = .returned (.agg #[.string r1, .int .i64 r2, .string r3]) ∧ zu w0 w' g s0_0 r4 ∧ Below w0.heap.size w0 w' ∧ KeepBut w w' g none := by
 have hu26 := Tryd.underlying26
 have HI0 := qa.mk hI
 have HK := qa.mk (KeepBut.refl w g none)
 have HL := qa.mk hB.size
 clear hI
 have HW0 := qa.mk hB.size
 have HB := qa.mk hB
 clear hB
 have H : ((some (([(⟨(⟨#[50, 46, 53, 46, 52, 46, 51]⟩ : ByteArray), 12, (⟨#[65, 110, 110]⟩ : ByteArray)⟩ : S26), (⟨(⟨#[50, 46, 53, 46, 52, 46, 51]⟩ : ByteArray), 19, (⟨#[32, 97, 110, 110]⟩ : ByteArray)⟩ : S26), (⟨(⟨#[50, 46, 53, 46, 52, 46, 51]⟩ : ByteArray), 12, (⟨#[103, 114, 195, 182, 195, 159, 101]⟩ : ByteArray)⟩ : S26), (⟨(⟨#[50, 46, 53, 46, 52, 46, 54]⟩ : ByteArray), 19, (⟨#[85, 83]⟩ : ByteArray)⟩ : S26), (⟨(⟨#[50, 46, 53, 46, 52, 46, 49, 48]⟩ : ByteArray), 19, (⟨#[69, 120, 97, 109, 112, 108, 101, 32, 32, 67, 111, 114, 112]⟩ : ByteArray)⟩ : S26), (⟨(⟨#[50, 46, 53, 46, 52, 46, 49, 48]⟩ : ByteArray), 12, (⟨#[101, 120, 97, 109, 112, 108, 101, 32, 99, 111, 114, 112]⟩ : ByteArray)⟩ : S26), (⟨(⟨#[50, 46, 53, 46, 52, 46, 49, 49]⟩ : ByteArray), 22, (⟨#[97, 44, 98, 43, 99, 61, 100, 92, 101]⟩ : ByteArray)⟩ : S26), (⟨(⟨#[48, 46, 57, 46, 50, 51, 52, 50, 46, 49, 57, 50, 48, 48, 51, 48, 48, 46, 49, 48, 48, 46, 49, 46, 50, 53]⟩ : ByteArray), 22, (⟨#[111, 114, 103]⟩ : ByteArray)⟩ : S26), (⟨(⟨#[49, 46, 50, 46, 56, 52, 48, 46, 49, 49, 51, 53, 52, 57, 46, 49, 46, 57, 46, 49]⟩ : ByteArray), 22, (⟨#[97, 110, 110, 64, 101, 120, 97, 109, 112, 108, 101, 46, 111, 114, 103]⟩ : ByteArray)⟩ : S26), (⟨(⟨#[49, 46, 50, 46, 56, 52, 48, 46, 49, 49, 51, 53, 52, 57, 46, 49, 46, 57, 46, 49]⟩ : ByteArray), 22, (⟨#[110, 111, 32, 97, 100, 100, 114, 101, 115, 115]⟩ : ByteArray)⟩ : S26), (⟨(⟨#[50, 46, 53, 46, 52, 46, 57, 57]⟩ : ByteArray), 19, (⟨#[120]⟩ : ByteArray)⟩ : S26), (⟨(⟨#[50, 46, 53, 46, 52, 46, 55]⟩ : ByteArray), 12, (⟨#[76]⟩ : ByteArray)⟩ : S26)] : List (S26)) : List (S26))).bind fun y288 => ((xt.f s0_0 s0_1 12).bind fun bt291 => (if 0 ≤ bt291.1 then (if bt291.1 < (y288.length : Int) then (some ((qn y288 bt291.1).f0, (qn y288 bt291.1).f1, (qn y288 bt291.1).f2, bt291.2)) else (none)) else (none)))) = some (r1, r2, r3, r4) := h
 clear h
 obtain ⟨y288, hy288⟩ : ∃ y_ : List (S26), y_ = (([(⟨(⟨#[50, 46, 53, 46, 52, 46, 51]⟩ : ByteArray), 12, (⟨#[65, 110, 110]⟩ : ByteArray)⟩ : S26), (⟨(⟨#[50, 46, 53, 46, 52, 46, 51]⟩ : ByteArray), 19, (⟨#[32, 97, 110, 110]⟩ : ByteArray)⟩ : S26), (⟨(⟨#[50, 46, 53, 46, 52, 46, 51]⟩ : ByteArray), 12, (⟨#[103, 114, 195, 182, 195, 159, 101]⟩ : ByteArray)⟩ : S26), (⟨(⟨#[50, 46, 53, 46, 52, 46, 54]⟩ : ByteArray), 19, (⟨#[85, 83]⟩ : ByteArray)⟩ : S26), (⟨(⟨#[50, 46, 53, 46, 52, 46, 49, 48]⟩ : ByteArray), 19, (⟨#[69, 120, 97, 109, 112, 108, 101, 32, 32, 67, 111, 114, 112]⟩ : ByteArray)⟩ : S26), (⟨(⟨#[50, 46, 53, 46, 52, 46, 49, 48]⟩ : ByteArray), 12, (⟨#[101, 120, 97, 109, 112, 108, 101, 32, 99, 111, 114, 112]⟩ : ByteArray)⟩ : S26), (⟨(⟨#[50, 46, 53, 46, 52, 46, 49, 49]⟩ : ByteArray), 22, (⟨#[97, 44, 98, 43, 99, 61, 100, 92, 101]⟩ : ByteArray)⟩ : S26), (⟨(⟨#[48, 46, 57, 46, 50, 51, 52, 50, 46, 49, 57, 50, 48, 48, 51, 48, 48, 46, 49, 48, 48, 46, 49, 46, 50, 53]⟩ : ByteArray), 22, (⟨#[111, 114, 103]⟩ : ByteArray)⟩ : S26), (⟨(⟨#[49, 46, 50, 46, 56, 52, 48, 46, 49, 49, 51, 53, 52, 57, 46, 49, 46, 57, 46, 49]⟩ : ByteArray), 22, (⟨#[97, 110, 110, 64, 101, 120, 97, 109, 112, 108, 101, 46, 111, 114, 103]⟩ : ByteArray)⟩ : S26), (⟨(⟨#[49, 46, 50, 46, 56, 52, 48, 46, 49, 49, 51, 53, 52, 57, 46, 49, 46, 57, 46, 49]⟩ : ByteArray), 22, (⟨#[110, 111, 32, 97, 100, 100, 114, 101, 115, 115]⟩ : ByteArray)⟩ : S26), (⟨(⟨#[50, 46, 53, 46, 52, 46, 57, 57]⟩ : ByteArray), 19, (⟨#[120]⟩ : ByteArray)⟩ : S26), (⟨(⟨#[50, 46, 53, 46, 52, 46, 55]⟩ : ByteArray), 12, (⟨#[76]⟩ : ByteArray)⟩ : S26)] : List (S26))) := ⟨_, rfl⟩
 replace H : ((xt.f s0_0 s0_1 12).bind fun bt291 => (if 0 ≤ bt291.1 then (if bt291.1 < (y288.length : Int) then (some ((qn y288 bt291.1).f0, (qn y288 bt291.1).f1, (qn y288 bt291.1).f2, bt291.2)) else (none)) else (none))) = some (r1, r2, r3, r4) := by first | (rw [hy288]; with_reducible exact H) | (have H2_ := (Option.bind_some _ _).symm.trans H; rw [hy288]; with_reducible exact H2_) | (have H2_ := (Option.bind_some _ _).symm.trans H; with_reducible exact H2_) | with_reducible exact H | (rw [hy288]; exact H) | exact H
 have Ny288 := qa.mk hy288
 clear hy288
 replace H := Option.bind_eq_some_iff.mp H
 obtain ⟨⟨t291, t292⟩, A20, H⟩ := H
 replace H : (if 0 ≤ t291 then (if t291 < (y288.length : Int) then (some ((qn y288 t291).f0, (qn y288 t291).f1, (qn y288 t291).f2, t292)) else (none)) else (none)) = some (r1, r2, r3, r4) := H
 have A2 := qa.mk A20
 clear A20
 by_cases c3 : 0 ≤ t291
 ·rw [if_pos c3] at H
  have c3b0 : decide (0 ≤ t291) = true := decide_eq_true c3
  clear c3
  by_cases c4 : t291 < (y288.length : Int)
  ·rw [if_pos c4] at H
   have c4b0 : decide (t291 < (y288.length : Int)) = true := decide_eq_true c4
   clear c4
   simp only [Option.some.injEq, Prod.mk.injEq] at H
   obtain ⟨rfl, rfl, rfl, rfl⟩ := H
   go_enter Tryd.func22, Tryd.ntmps22
   go_wp2_with (first | ((with_reducible refine zd (N := 2) rfl ?_); refine zg ?hg (N := 2) ?hd (cs := #[.string (⟨#[]⟩ : ByteArray), .int .i64 0, .string (⟨#[]⟩ : ByteArray)]) (t := 26) ?hr ?_; (case hd => rfl); (case hg => rfl); (case hr => first | (go_simp; done) | (go_simp; rfl)); intro gb287 hg w5 hbox hb; have n0_ := qa.mk (zu.below (by repeat (first | (with_reducible first | exact HI0.out | apply zu.alloc | apply zu.drewN | apply zu.drew | apply zu.set_1) | exact HI0.out)) hb); have n1_ := qa.mk (KeepBut.trans (by repeat (first | (with_reducible first | exact HK.out | apply KeepBut.set_ | apply ja | apply keep_drew | apply k9) | exact HK.out)) (KeepBut.of_below hb g none) (.inl rfl)); have n2_ := qa.mk (qj (by repeat (first | (with_reducible first | exact HB.out | apply qc | apply qb | apply qd | refine qe ?_ (zu.ge HI0.out)) | exact HB.out)) hb); have n3_ := qa.mk (hbox); have n4_ := qa.mk ((by rw [hg]; exact (keep_size (w := w) (g := g) (row := none) (by repeat (first | (with_reducible first | exact HK.out | apply KeepBut.set_ | apply ja | apply keep_drew | apply k9) | exact HK.out))) : w.heap.size ≤ gb287)); have n5_ := qa.mk ((Nat.le_trans HW0.out (by rw [hg]; exact (keep_size (w := w) (g := g) (row := none) (by repeat (first | (with_reducible first | exact HK.out | apply KeepBut.set_ | apply ja | apply keep_drew | apply k9) | exact HK.out))) : w.heap.size ≤ gb287) : w0.heap.size ≤ gb287)); have n6_ := qa.mk ((by rw [hg]; exact Nat.ne_of_lt (zu.lt (show zu w0 _ g s0_0 s0_1 from by repeat (first | (with_reducible first | exact HI0.out | apply zu.alloc | apply zu.drewN | apply zu.drew | apply zu.set_1) | exact HI0.out))) : g ≠ gb287)); have n7_ := qa.mk ((by rw [hg]; exact Nat.ne_of_gt (zu.lt (show zu w0 _ g s0_0 s0_1 from by repeat (first | (with_reducible first | exact HI0.out | apply zu.alloc | apply zu.drewN | apply zu.drew | apply zu.set_1) | exact HI0.out))) : gb287 ≠ g)); clear HI0; clear HK; clear HB; have HI0 := n0_; have HK := n1_; have HB := n2_; have BK287 := n3_; have GW287 := n4_; have GE287 := n5_; have NB0_287 := n6_; have NB287_0 := n7_; clear n0_ n1_ n2_ n3_ n4_ n5_ n6_ n7_; clear hb hbox hg) | ((with_reducible refine zd (N := 15) rfl ?_); refine Kd.R_lit k26 _ 26 ?hg (N := 15) ?hd (xs := ([(⟨(⟨#[50, 46, 53, 46, 52, 46, 51]⟩ : ByteArray), 12, (⟨#[65, 110, 110]⟩ : ByteArray)⟩ : S26), (⟨(⟨#[50, 46, 53, 46, 52, 46, 51]⟩ : ByteArray), 19, (⟨#[32, 97, 110, 110]⟩ : ByteArray)⟩ : S26), (⟨(⟨#[50, 46, 53, 46, 52, 46, 51]⟩ : ByteArray), 12, (⟨#[103, 114, 195, 182, 195, 159, 101]⟩ : ByteArray)⟩ : S26), (⟨(⟨#[50, 46, 53, 46, 52, 46, 54]⟩ : ByteArray), 19, (⟨#[85, 83]⟩ : ByteArray)⟩ : S26), (⟨(⟨#[50, 46, 53, 46, 52, 46, 49, 48]⟩ : ByteArray), 19, (⟨#[69, 120, 97, 109, 112, 108, 101, 32, 32, 67, 111, 114, 112]⟩ : ByteArray)⟩ : S26), (⟨(⟨#[50, 46, 53, 46, 52, 46, 49, 48]⟩ : ByteArray), 12, (⟨#[101, 120, 97, 109, 112, 108, 101, 32, 99, 111, 114, 112]⟩ : ByteArray)⟩ : S26), (⟨(⟨#[50, 46, 53, 46, 52, 46, 49, 49]⟩ : ByteArray), 22, (⟨#[97, 44, 98, 43, 99, 61, 100, 92, 101]⟩ : ByteArray)⟩ : S26), (⟨(⟨#[48, 46, 57, 46, 50, 51, 52, 50, 46, 49, 57, 50, 48, 48, 51, 48, 48, 46, 49, 48, 48, 46, 49, 46, 50, 53]⟩ : ByteArray), 22, (⟨#[111, 114, 103]⟩ : ByteArray)⟩ : S26), (⟨(⟨#[49, 46, 50, 46, 56, 52, 48, 46, 49, 49, 51, 53, 52, 57, 46, 49, 46, 57, 46, 49]⟩ : ByteArray), 22, (⟨#[97, 110, 110, 64, 101, 120, 97, 109, 112, 108, 101, 46, 111, 114, 103]⟩ : ByteArray)⟩ : S26), (⟨(⟨#[49, 46, 50, 46, 56, 52, 48, 46, 49, 49, 51, 53, 52, 57, 46, 49, 46, 57, 46, 49]⟩ : ByteArray), 22, (⟨#[110, 111, 32, 97, 100, 100, 114, 101, 115, 115]⟩ : ByteArray)⟩ : S26), (⟨(⟨#[50, 46, 53, 46, 52, 46, 57, 57]⟩ : ByteArray), 19, (⟨#[120]⟩ : ByteArray)⟩ : S26), (⟨(⟨#[50, 46, 53, 46, 52, 46, 55]⟩ : ByteArray), 12, (⟨#[76]⟩ : ByteArray)⟩ : S26)] : List (S26))) (inner := [.string (⟨#[50, 46, 53, 46, 52, 46, 51]⟩ : ByteArray), .int .i64 12, .string (⟨#[65, 110, 110]⟩ : ByteArray), .string (⟨#[50, 46, 53, 46, 52, 46, 51]⟩ : ByteArray), .int .i64 19, .string (⟨#[32, 97, 110, 110]⟩ : ByteArray), .string (⟨#[50, 46, 53, 46, 52, 46, 51]⟩ : ByteArray), .int .i64 12, .string (⟨#[103, 114, 195, 182, 195, 159, 101]⟩ : ByteArray), .string (⟨#[50, 46, 53, 46, 52, 46, 54]⟩ : ByteArray), .int .i64 19, .string (⟨#[85, 83]⟩ : ByteArray), .string (⟨#[50, 46, 53, 46, 52, 46, 49, 48]⟩ : ByteArray), .int .i64 19, .string (⟨#[69, 120, 97, 109, 112, 108, 101, 32, 32, 67, 111, 114, 112]⟩ : ByteArray), .string (⟨#[50, 46, 53, 46, 52, 46, 49, 48]⟩ : ByteArray), .int .i64 12, .string (⟨#[101, 120, 97, 109, 112, 108, 101, 32, 99, 111, 114, 112]⟩ : ByteArray), .string (⟨#[50, 46, 53, 46, 52, 46, 49, 49]⟩ : ByteArray), .int .i64 22, .string (⟨#[97, 44, 98, 43, 99, 61, 100, 92, 101]⟩ : ByteArray), .string (⟨#[48, 46, 57, 46, 50, 51, 52, 50, 46, 49, 57, 50, 48, 48, 51, 48, 48, 46, 49, 48, 48, 46, 49, 46, 50, 53]⟩ : ByteArray), .int .i64 22, .string (⟨#[111, 114, 103]⟩ : ByteArray), .string (⟨#[49, 46, 50, 46, 56, 52, 48, 46, 49, 49, 51, 53, 52, 57, 46, 49, 46, 57, 46, 49]⟩ : ByteArray), .int .i64 22, .string (⟨#[97, 110, 110, 64, 101, 120, 97, 109, 112, 108, 101, 46, 111, 114, 103]⟩ : ByteArray), .string (⟨#[49, 46, 50, 46, 56, 52, 48, 46, 49, 49, 51, 53, 52, 57, 46, 49, 46, 57, 46, 49]⟩ : ByteArray), .int .i64 22, .string (⟨#[110, 111, 32, 97, 100, 100, 114, 101, 115, 115]⟩ : ByteArray), .string (⟨#[50, 46, 53, 46, 52, 46, 57, 57]⟩ : ByteArray), .int .i64 19, .string (⟨#[120]⟩ : ByteArray), .string (⟨#[50, 46, 53, 46, 52, 46, 55]⟩ : ByteArray), .int .i64 12, .string (⟨#[76]⟩ : ByteArray)]) (ok := fun _ => True) (okp := fun _ => True) ?hr ?hp (fun _ hk => hk) trivial (Below.refl _ _) (Nat.le_refl _) (by simp) ?_; (case hd => rfl); (case hg => rfl); (case hr => first | (go_simp; done) | (go_simp; rfl)); (case hp => exact (Reps.c3 (show Kd.M k26 _ _ _ (⟨(⟨#[50, 46, 53, 46, 52, 46, 51]⟩ : ByteArray), 12, (⟨#[65, 110, 110]⟩ : ByteArray)⟩ : S26) [.string (⟨#[50, 46, 53, 46, 52, 46, 51]⟩ : ByteArray), .int .i64 12, .string (⟨#[65, 110, 110]⟩ : ByteArray)] from (kt _ _ _ (⟨(⟨#[50, 46, 53, 46, 52, 46, 51]⟩ : ByteArray), 12, (⟨#[65, 110, 110]⟩ : ByteArray)⟩ : S26) )) (Reps.c3 (show Kd.M k26 _ _ _ (⟨(⟨#[50, 46, 53, 46, 52, 46, 51]⟩ : ByteArray), 19, (⟨#[32, 97, 110, 110]⟩ : ByteArray)⟩ : S26) [.string (⟨#[50, 46, 53, 46, 52, 46, 51]⟩ : ByteArray), .int .i64 19, .string (⟨#[32, 97, 110, 110]⟩ : ByteArray)] from (kt _ _ _ (⟨(⟨#[50, 46, 53, 46, 52, 46, 51]⟩ : ByteArray), 19, (⟨#[32, 97, 110, 110]⟩ : ByteArray)⟩ : S26) )) (Reps.c3 (show Kd.M k26 _ _ _ (⟨(⟨#[50, 46, 53, 46, 52, 46, 51]⟩ : ByteArray), 12, (⟨#[103, 114, 195, 182, 195, 159, 101]⟩ : ByteArray)⟩ : S26) [.string (⟨#[50, 46, 53, 46, 52, 46, 51]⟩ : ByteArray), .int .i64 12, .string (⟨#[103, 114, 195, 182, 195, 159, 101]⟩ : ByteArray)] from (kt _ _ _ (⟨(⟨#[50, 46, 53, 46, 52, 46, 51]⟩ : ByteArray), 12, (⟨#[103, 114, 195, 182, 195, 159, 101]⟩ : ByteArray)⟩ : S26) )) (Reps.c3 (show Kd.M k26 _ _ _ (⟨(⟨#[50, 46, 53, 46, 52, 46, 54]⟩ : ByteArray), 19, (⟨#[85, 83]⟩ : ByteArray)⟩ : S26) [.string (⟨#[50, 46, 53, 46, 52, 46, 54]⟩ : ByteArray), .int .i64 19, .string (⟨#[85, 83]⟩ : ByteArray)] from (kt _ _ _ (⟨(⟨#[50, 46, 53, 46, 52, 46, 54]⟩ : ByteArray), 19, (⟨#[85, 83]⟩ : ByteArray)⟩ : S26) )) (Reps.c3 (show Kd.M k26 _ _ _ (⟨(⟨#[50, 46, 53, 46, 52, 46, 49, 48]⟩ : ByteArray), 19, (⟨#[69, 120, 97, 109, 112, 108, 101, 32, 32, 67, 111, 114, 112]⟩ : ByteArray)⟩ : S26) [.string (⟨#[50, 46, 53, 46, 52, 46, 49, 48]⟩ : ByteArray), .int .i64 19, .string (⟨#[69, 120, 97, 109, 112, 108, 101, 32, 32, 67, 111, 114, 112]⟩ : ByteArray)] from (kt _ _ _ (⟨(⟨#[50, 46, 53, 46, 52, 46, 49, 48]⟩ : ByteArray), 19, (⟨#[69, 120, 97, 109, 112, 108, 101, 32, 32, 67, 111, 114, 112]⟩ : ByteArray)⟩ : S26) )) (Reps.c3 (show Kd.M k26 _ _ _ (⟨(⟨#[50, 46, 53, 46, 52, 46, 49, 48]⟩ : ByteArray), 12, (⟨#[101, 120, 97, 109, 112, 108, 101, 32, 99, 111, 114, 112]⟩ : ByteArray)⟩ : S26) [.string (⟨#[50, 46, 53, 46, 52, 46, 49, 48]⟩ : ByteArray), .int .i64 12, .string (⟨#[101, 120, 97, 109, 112, 108, 101, 32, 99, 111, 114, 112]⟩ : ByteArray)] from (kt _ _ _ (⟨(⟨#[50, 46, 53, 46, 52, 46, 49, 48]⟩ : ByteArray), 12, (⟨#[101, 120, 97, 109, 112, 108, 101, 32, 99, 111, 114, 112]⟩ : ByteArray)⟩ : S26) )) (Reps.c3 (show Kd.M k26 _ _ _ (⟨(⟨#[50, 46, 53, 46, 52, 46, 49, 49]⟩ : ByteArray), 22, (⟨#[97, 44, 98, 43, 99, 61, 100, 92, 101]⟩ : ByteArray)⟩ : S26) [.string (⟨#[50, 46, 53, 46, 52, 46, 49, 49]⟩ : ByteArray), .int .i64 22, .string (⟨#[97, 44, 98, 43, 99, 61, 100, 92, 101]⟩ : ByteArray)] from (kt _ _ _ (⟨(⟨#[50, 46, 53, 46, 52, 46, 49, 49]⟩ : ByteArray), 22, (⟨#[97, 44, 98, 43, 99, 61, 100, 92, 101]⟩ : ByteArray)⟩ : S26) )) (Reps.c3 (show Kd.M k26 _ _ _ (⟨(⟨#[48, 46, 57, 46, 50, 51, 52, 50, 46, 49, 57, 50, 48, 48, 51, 48, 48, 46, 49, 48, 48, 46, 49, 46, 50, 53]⟩ : ByteArray), 22, (⟨#[111, 114, 103]⟩ : ByteArray)⟩ : S26) [.string (⟨#[48, 46, 57, 46, 50, 51, 52, 50, 46, 49, 57, 50, 48, 48, 51, 48, 48, 46, 49, 48, 48, 46, 49, 46, 50, 53]⟩ : ByteArray), .int .i64 22, .string (⟨#[111, 114, 103]⟩ : ByteArray)] from (kt _ _ _ (⟨(⟨#[48, 46, 57, 46, 50, 51, 52, 50, 46, 49, 57, 50, 48, 48, 51, 48, 48, 46, 49, 48, 48, 46, 49, 46, 50, 53]⟩ : ByteArray), 22, (⟨#[111, 114, 103]⟩ : ByteArray)⟩ : S26) )) (Reps.c3 (show Kd.M k26 _ _ _ (⟨(⟨#[49, 46, 50, 46, 56, 52, 48, 46, 49, 49, 51, 53, 52, 57, 46, 49, 46, 57, 46, 49]⟩ : ByteArray), 22, (⟨#[97, 110, 110, 64, 101, 120, 97, 109, 112, 108, 101, 46, 111, 114, 103]⟩ : ByteArray)⟩ : S26) [.string (⟨#[49, 46, 50, 46, 56, 52, 48, 46, 49, 49, 51, 53, 52, 57, 46, 49, 46, 57, 46, 49]⟩ : ByteArray), .int .i64 22, .string (⟨#[97, 110, 110, 64, 101, 120, 97, 109, 112, 108, 101, 46, 111, 114, 103]⟩ : ByteArray)] from (kt _ _ _ (⟨(⟨#[49, 46, 50, 46, 56, 52, 48, 46, 49, 49, 51, 53, 52, 57, 46, 49, 46, 57, 46, 49]⟩ : ByteArray), 22, (⟨#[97, 110, 110, 64, 101, 120, 97, 109, 112, 108, 101, 46, 111, 114, 103]⟩ : ByteArray)⟩ : S26) )) (Reps.c3 (show Kd.M k26 _ _ _ (⟨(⟨#[49, 46, 50, 46, 56, 52, 48, 46, 49, 49, 51, 53, 52, 57, 46, 49, 46, 57, 46, 49]⟩ : ByteArray), 22, (⟨#[110, 111, 32, 97, 100, 100, 114, 101, 115, 115]⟩ : ByteArray)⟩ : S26) [.string (⟨#[49, 46, 50, 46, 56, 52, 48, 46, 49, 49, 51, 53, 52, 57, 46, 49, 46, 57, 46, 49]⟩ : ByteArray), .int .i64 22, .string (⟨#[110, 111, 32, 97, 100, 100, 114, 101, 115, 115]⟩ : ByteArray)] from (kt _ _ _ (⟨(⟨#[49, 46, 50, 46, 56, 52, 48, 46, 49, 49, 51, 53, 52, 57, 46, 49, 46, 57, 46, 49]⟩ : ByteArray), 22, (⟨#[110, 111, 32, 97, 100, 100, 114, 101, 115, 115]⟩ : ByteArray)⟩ : S26) )) (Reps.c3 (show Kd.M k26 _ _ _ (⟨(⟨#[50, 46, 53, 46, 52, 46, 57, 57]⟩ : ByteArray), 19, (⟨#[120]⟩ : ByteArray)⟩ : S26) [.string (⟨#[50, 46, 53, 46, 52, 46, 57, 57]⟩ : ByteArray), .int .i64 19, .string (⟨#[120]⟩ : ByteArray)] from (kt _ _ _ (⟨(⟨#[50, 46, 53, 46, 52, 46, 57, 57]⟩ : ByteArray), 19, (⟨#[120]⟩ : ByteArray)⟩ : S26) )) (Reps.c3 (show Kd.M k26 _ _ _ (⟨(⟨#[50, 46, 53, 46, 52, 46, 55]⟩ : ByteArray), 12, (⟨#[76]⟩ : ByteArray)⟩ : S26) [.string (⟨#[50, 46, 53, 46, 52, 46, 55]⟩ : ByteArray), .int .i64 12, .string (⟨#[76]⟩ : ByteArray)] from (kt _ _ _ (⟨(⟨#[50, 46, 53, 46, 52, 46, 55]⟩ : ByteArray), 12, (⟨#[76]⟩ : ByteArray)⟩ : S26) )) (Reps.none _ _)))))))))))))); intro v289 w6 ho7 hb hg_ hnew_; clear hg_ hnew_; (first | rw [← Ny288.out] at ho7 | (simp only [Int.reduceToNat] at ho7; rw [← Ny288.out] at ho7)); have n0_ := qa.mk (Kd.R_lower (Kd.R_newB ho7 (g := gb287) (o := .cells #[.string (⟨#[]⟩ : ByteArray), .int .i64 0, .string (⟨#[]⟩ : ByteArray)] 26 (0, 0)) (by (with_reducible repeat (first | refine qg ?_ _ | refine qh ?_ | refine qf ?_ _)); exact BK287.out)) (keep_size (w := w) (g := g) (row := none) (by repeat (first | (with_reducible first | exact HK.out | apply KeepBut.set_ | apply ja | apply keep_drew | apply k9 | refine keep_far ?_ GW287.out _) | exact HK.out)))); have n1_ := qa.mk (zu.below (by repeat (first | (with_reducible first | exact HI0.out | apply zu.alloc | apply zu.drewN | apply zu.drew | apply zu.set_1 | refine zu.far ?_ NB0_287.out _) | exact HI0.out)) hb); have n2_ := qa.mk (qt (g := gb287) (o := .cells #[.string (⟨#[]⟩ : ByteArray), .int .i64 0, .string (⟨#[]⟩ : ByteArray)] 26 (0, 0)) (by (with_reducible repeat (first | refine qg ?_ _ | refine qh ?_ | refine qf ?_ _)); exact BK287.out) hb); have n3_ := qa.mk (KeepBut.trans (by repeat (first | (with_reducible first | exact HK.out | apply KeepBut.set_ | apply ja | apply keep_drew | apply k9 | refine keep_far ?_ GW287.out _) | exact HK.out)) (KeepBut.of_below hb g none) (.inl rfl)); have n4_ := qa.mk (qj (by repeat (first | (with_reducible first | exact HB.out | apply qc | apply qb | apply qd | refine qe ?_ (zu.ge HI0.out) | refine qe ?_ GE287.out) | exact HB.out)) hb); clear HI0; clear BK287; clear HK; clear HB; have HO290 := n0_; have HI0 := n1_; have BK287 := n2_; have HK := n3_; have HB := n4_; clear n0_ n1_ n2_ n3_ n4_; clear hb ho7) | ((with_reducible refine zk (f := 14) rfl ?_); refine xv (some 17) rfl rfl Tryd.func14 (by kernel_rfl) rfl #[.pointer (some ⟨g, 0, none⟩), .int .i64 12] rfl (by (try simp only [List.map_toArray, List.map_cons, List.map_nil]); first | done | rfl | (simp only [List.length_drop, List.length_take]; rfl)) ?_; (with_reducible refine (xt.calls g s0_0 s0_1 12 t291 t292 w0 _ ?side1 ?side2 A2.out).mono ?_); (case side1 => repeat (first | (with_reducible first | exact HI0.out | apply zu.alloc | apply zu.drewN | apply zu.drew | apply zu.set_1 | refine zu.far ?_ NB0_287.out _) | exact HI0.out)); (case side2 => repeat (first | (with_reducible first | exact HB.out | apply qc | apply qb | apply qd | refine qe ?_ (zu.ge HI0.out) | refine qe ?_ GE287.out) | exact HB.out)); rintro e w8 ⟨rfl, hi, hb, hk⟩; refine ⟨_, rfl, ?_⟩; have n0_ := qa.mk (KeepBut.blk hk (g' := gb287) (o := .cells #[.string (⟨#[]⟩ : ByteArray), .int .i64 0, .string (⟨#[]⟩ : ByteArray)] 26 (0, 0)) (by (with_reducible repeat (first | refine qg ?_ _ | refine qh ?_ | refine qf ?_ _)); exact BK287.out) NB287_0.out (by simp)); have n1_ := qa.mk (Kd.x2 (Kd.R_keep (zu.apart (show zu w0 _ g s0_0 s0_1 from by repeat (first | (with_reducible first | exact HI0.out | apply zu.alloc | apply zu.drewN | apply zu.drew | apply zu.set_1 | refine zu.far ?_ NB0_287.out _) | exact HI0.out)) (by (with_reducible repeat (first | apply Kd.zi | apply Kd.ze | apply Kd.zv)); exact HO290.out) (by decide)) hk (fun _ h => h.2)) (fun _ h => h.1)); have n2_ := qa.mk (KeepBut.trans (by repeat (first | (with_reducible first | exact HK.out | apply KeepBut.set_ | apply ja | apply keep_drew | apply k9 | refine keep_far ?_ GW287.out _) | exact HK.out)) hk (.inl rfl)); have n3_ := qa.mk (hb); have n4_ := qa.mk (hi); clear BK287; clear HO290; clear HK; clear HB; clear HI0; have BK287 := n0_; have HO290 := n1_; have HK := n2_; have HB := n3_; have HI0 := n4_; clear n0_ n1_ n2_ n3_ n4_; (try clear hb); (try clear hb2); (try clear hk); (try clear hi); obtain ⟨Ao9, co9, eo9⟩ := Kd.ko HO290.out; subst eo9; have p293 : 0 ≤ (t291 : Int) := of_decide_eq_true (by first | (with_reducible assumption) | assumption); have q293 : t291 < (y288.length : Int) := of_decide_eq_true (by first | (with_reducible assumption) | assumption); obtain ⟨ad293, e293, hx293_0, hx293_1, hx293_2⟩ := kv (Kd.kg HO290.out).2.2 t291 p293 q293; cases e293; replace p293 := eq_true p293; replace q293 := eq_true q293; have hnb10 := NB287_0.out; have hnc10 := NB0_287.out; have hcz11_0 : w8.cell? ⟨gb287, 0, none⟩ = some (.string (⟨#[]⟩ : ByteArray)) := (qi BK287.out 0).trans rfl; have hcz11_1 : w8.cell? ⟨gb287, 1, none⟩ = some (.int .i64 0) := (qi BK287.out 1).trans rfl; have hcz11_2 : w8.cell? ⟨gb287, 2, none⟩ = some (.string (⟨#[]⟩ : ByteArray)) := (qi BK287.out 2).trans rfl; have hfz11_0 := qk BK287.out 0; have hfz11_1 := qk BK287.out 1; have hfz11_2 := qk BK287.out 2))
   refine bodyPost_ret (results_cell_row rfl _ _ gb287 26 #[.string ((qn y288 t291).f0), .int .i64 ((qn y288 t291).f1), .string ((qn y288 t291).f2)] (0, 0) _ rfl (by (with_reducible repeat (first | refine qg ?_ _ | refine qh ?_ | refine qf ?_ _)); refine zw (cs := #[.string ((qn y288 t291).f0), .int .i64 ((qn y288 t291).f1), .string (⟨#[]⟩ : ByteArray)]) ?_ 2 _ rfl; (with_reducible repeat (first | refine qg ?_ _ | refine qh ?_ | refine qf ?_ _)); refine zw (cs := #[.string ((qn y288 t291).f0), .int .i64 0, .string (⟨#[]⟩ : ByteArray)]) ?_ 1 _ rfl; (with_reducible repeat (first | refine qg ?_ _ | refine qh ?_ | refine qf ?_ _)); refine zw (cs := #[.string (⟨#[]⟩ : ByteArray), .int .i64 0, .string (⟨#[]⟩ : ByteArray)]) ?_ 0 _ rfl; (with_reducible repeat (first | refine qg ?_ _ | refine qh ?_ | refine qf ?_ _)); exact BK287.out) Tryd.underlying26 rfl (by kernel_rfl)) rfl ?_
   exact ⟨by first | rfl | (simp [qq, qp] <;> rfl) | (simp [*, qq, qp] <;> rfl), by repeat (first | (with_reducible first | exact HI0.out | apply zu.alloc | apply zu.drewN | apply zu.drew | apply zu.set_1 | refine zu.far ?_ NB0_287.out _) | exact HI0.out), by repeat (first | (with_reducible first | exact HB.out | apply qc | apply qb | apply qd | refine qe ?_ (zu.ge HI0.out) | refine qe ?_ GE287.out) | exact HB.out), by repeat (first | (with_reducible first | exact HK.out | apply KeepBut.set_ | apply ja | apply keep_drew | apply k9 | refine keep_far ?_ GW287.out _) | exact HK.out)⟩
  ·rw [if_neg c4] at H
   exact absurd H (by simp)
 ·rw [if_neg c3] at H
  exact absurd H (by simp)
end Go.Proofs.YtjhlinifnjoefaaDoor.C
end
