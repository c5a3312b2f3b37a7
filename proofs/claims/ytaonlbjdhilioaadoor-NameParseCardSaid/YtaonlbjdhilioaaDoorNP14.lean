/- Words, walks and plain laws that the claim rests on, gathered. -/
import Derived.OrdersHeld
import Derived.Deep.RegionHeld3
import Derived.Laws.BitsLemmas
import Derived.RowKit
import Derived.Test.YtaonlbjdhilioaaDoorProg
import Derived.WalkSpells
import Derived.Below
import Derived.Deep.Draws
import Derived.Deep.AppendLies
import Derived.Maps.AppendAt
import Derived.OwnWalk
import Derived.Laws.BytesArg
import Derived.Laws.MakeOwn
import Derived.Laws.OwnMore
import Derived.Deep.OwnRows
import Derived.Tactics
import Derived.Lib.ConvBytes
import Derived.Laws.Slices
import Derived.WalkKit
import Derived.KernelRfl
import Derived.RowKit3
import Derived.Deep.LoopGhost
import Derived.Deep.QuietTactic
import Derived.BigQuiet
import Derived.WideLaws
import Derived.Deep.DeepCutAuto
import Derived.Deep.CutBlock
import Derived.Laws.Rows
import Derived.Lib.AppendStr
import Derived.ArgAppend
import Derived.Laws.IdiomCopy
import Derived.Laws.StructEq
import Derived.Shelf.Small.Strs
import Derived.Shelf.Small.Wraps
import Derived.Shelf.Utf8.RuneCount
import Derived.Shelf.Strings.Search1
import Derived.Shelf.Strings.Search2
import Derived.Shelf.Strings.Search3
import Derived.Shelf.Strings.Cut
import Derived.Shelf.Strings.Count
import Derived.Shelf.LaysM
import Derived.Shelf.Strings.Shaped
import Derived.Shelf.Strings.Prefix
import Derived.Shelf.Strings.Split
import Derived.Shelf.Strings.SplitShaped
import Derived.Shelf.Unicode.DecodeSlow
import Derived.Shelf.Unicode.DecodeAny
import Derived.Test.YtaonlbjdhilioaaDoorNP0
import Derived.Test.YtaonlbjdhilioaaDoorNP1
import Derived.Test.YtaonlbjdhilioaaDoorNP2
namespace Go.Proofs.YtaonlbjdhilioaaDoorW.PrintLast
end Go.Proofs.YtaonlbjdhilioaaDoorW.PrintLast
namespace Go.Proofs.YtaonlbjdhilioaaDoorW.PrintMore
end Go.Proofs.YtaonlbjdhilioaaDoorW.PrintMore
namespace Go.Proofs.YtaonlbjdhilioaaDoorW.PrintWords
end Go.Proofs.YtaonlbjdhilioaaDoorW.PrintWords
section
namespace Go.Proofs.YtaonlbjdhilioaaDoor.C
open Go.RowKit Go.Proofs.YtaonlbjdhilioaaDoorW.PrintWords Go.Proofs.YtaonlbjdhilioaaDoorW.PrintLast Go.Proofs.YtaonlbjdhilioaaDoorW.PrintMore
attribute [local go_sem] kf ke kp kr xr xt kg ki
set_option linter.unusedVariables false
set_option linter.unusedSimpArgs false
theorem eqA26 (d : Nat) (w : World) (x0 y0 : ByteArray) (x1 y1 : Int) (x2 y2 : ByteArray) :
  (Op.equalIn (d + 2) 26 (.agg #[.string x0, .int .i64 x1, .string x2]) (.agg #[.string y0, .int .i64 y1, .string y2])).run Tryd.prog w = .ok (x0.toList == y0.toList && (x1 == y1 && (x2.toList == y2.toList))) w := by
 refine eqA_of Tryd.underlying26 (by kernel_rfl) ?_
 refine eqf_cons (by rfl) (by go_simp; rfl) (by go_simp; rfl) (by go_simp) ?_
 refine eqf_cons (by rfl) (by go_simp; rfl) (by go_simp; rfl) (by go_simp) ?_
 exact eqf_last (by rfl) (by go_simp; rfl) (by go_simp; rfl) (by go_simp)
end Go.Proofs.YtaonlbjdhilioaaDoor.C
end
section
namespace Go.Proofs.YtaonlbjdhilioaaDoor.C
open Go.RowKit Go.Proofs.YtaonlbjdhilioaaDoorW.PrintWords Go.Proofs.YtaonlbjdhilioaaDoorW.PrintLast Go.Proofs.YtaonlbjdhilioaaDoorW.PrintMore
attribute [local go_sem] kf ke kp kr xr xt kg ki
set_option linter.unusedVariables false
set_option linter.unusedSimpArgs false
attribute [local go_sem high] eqA26
mutual
def zc.l0 : Nat → Int → Int → List (List (S26)) → List (List (S26)) → Option (Bool)
 | 0, _, _, _, _ => none
 | k + 1, x16, x17, x318000, x319000 => if x17 < x16 then (if 0 ≤ x17 then (if x17 < (x318000.length : Int) then (if x17 < (x319000.length : Int) then (if ((xh x318000 x17).length : Int) = ((xh x319000 x17).length : Int) then (zc.l1 k x17 x16 x17 ((xh x318000 x17).length : Int) 0 x318000 x319000) else (some false)) else (none)) else (none)) else (none)) else (some true)
def zc.l1 : Nat → Int → Int → Int → Int → Int → List (List (S26)) → List (List (S26)) → Option (Bool)
 | 0, _, _, _, _, _, _, _ => none
 | k + 1, x5, x16, x17, x38, x39, x318000, x319000 => if x39 < x38 then (if 0 ≤ x5 then (if x5 < (x318000.length : Int) then (if 0 ≤ x39 then (if x39 < ((xh x318000 x5).length : Int) then (if x5 < (x319000.length : Int) then (if x39 < ((xh x319000 x5).length : Int) then (if (!((((qv (xh x318000 x5) x39).f0).toList) == (((qv (xh x319000 x5) x39).f0).toList)) || (!(((qv (xh x318000 x5) x39).f1) == ((qv (xh x319000 x5) x39).f1)) || (!((((qv (xh x318000 x5) x39).f2).toList) == (((qv (xh x319000 x5) x39).f2).toList))))) = true then (some false) else (zc.l1 k x5 x16 x17 x38 (wrap64 (x39 + 1)) x318000 x319000)) else (none)) else (none)) else (none)) else (none)) else (none)) else (none)) else (zc.l0 k x16 (wrap64 (x17 + 1)) x318000 x319000)
end
def zc.f (k : Nat) (l0_0 : List (List (S26))) (l1_0 : List (List (S26))) : Option (Bool) := if (l0_0.length : Int) = (l1_0.length : Int) then (zc.l0 k (l0_0.length : Int) 0 l0_0 l1_0) else (some false)
theorem zc.xf : ∀ k, (∀ y0 y1 y2 y3, LeO (zc.l0 k y0 y1 y2 y3) (zc.l0 (k + 1) y0 y1 y2 y3)) ∧ (∀ y0 y1 y2 y3 y4 y5 y6, LeO (zc.l1 k y0 y1 y2 y3 y4 y5 y6) (zc.l1 (k + 1) y0 y1 y2 y3 y4 y5 y6))
 | 0 => ⟨fun _ _ _ _ r h => by simp [zc.l0] at h, fun _ _ _ _ _ _ _ r h => by simp [zc.l1] at h⟩
 | k + 1 => by
  obtain ⟨ih0, ih1⟩ := zc.xf k
  refine ⟨?_, ?_⟩
  ·intro y0 y1 y2 y3
   unfold zc.l0
   repeat' first
   | (with_reducible exact ih0 _ _ _ _)
   | (with_reducible exact ih1 _ _ _ _ _ _ _)
   | (with_reducible exact LeO.refl _)
   | (with_reducible exact LeO.none _)
   | (with_reducible refine LeO.ite ?_ ?_)
   | (with_reducible refine LeO.bind ?_ (fun _ => ?_))
  ·intro y0 y1 y2 y3 y4 y5 y6
   unfold zc.l1
   repeat' first
   | (with_reducible exact ih0 _ _ _ _)
   | (with_reducible exact ih1 _ _ _ _ _ _ _)
   | (with_reducible exact LeO.refl _)
   | (with_reducible exact LeO.none _)
   | (with_reducible refine LeO.ite ?_ ?_)
   | (with_reducible refine LeO.bind ?_ (fun _ => ?_))
theorem zc.mono : ∀ a0 a1 k, LeO (zc.f k a0 a1) (zc.f (k + 1) a0 a1) := by
 intro a0 a1 k
 obtain ⟨ih0, ih1⟩ := zc.xf k
 unfold zc.f
 repeat' first
   | (with_reducible exact ih0 _ _ _ _)
   | (with_reducible exact ih1 _ _ _ _ _ _ _)
   | (with_reducible exact LeO.refl _)
   | (with_reducible exact LeO.none _)
   | (with_reducible refine LeO.ite ?_ ?_)
   | (with_reducible refine LeO.bind ?_ (fun _ => ?_))
set_option maxHeartbeats 8000000 in
set_option maxRecDepth 100000 in
theorem zc.calls (k : Nat) (A0_0 : Option Addr) (c0_0 : Nat) (l0_0 : List (List (S26))) (A1_0 : Option Addr) (c1_0 : Nat) (l1_0 : List (List (S26))) (r : Bool) (w : World) (hr0_0 : Kd.C (Kd.slice 26 k26) w A0_0 l0_0.length l0_0) (hc0_0 : l0_0.length ≤ c0_0) (hr1_0 : Kd.C (Kd.slice 26 k26) w A1_0 l1_0.length l1_0) (hc1_0 : l1_0.length ≤ c1_0) (h : zc.f k l0_0 l1_0 = some r) :
  Calls Tryd.prog 24 #[.agg #[.slice A0_0 l0_0.length c0_0], .agg #[.slice A1_0 l1_0.length c1_0]] w fun e w' => e = .returned (.bool r) ∧ Below w.heap.size w w' := by
 have hu24 := Tryd.underlying24
 have hu26 := Tryd.underlying26
 have HR0_0 := qb.mk hr0_0
 have HC0_0 := qb.mk hc0_0
 clear hr0_0 hc0_0
 have HR1_0 := qb.mk hr1_0
 have HC1_0 := qb.mk hc1_0
 clear hr1_0 hc1_0
 have HB := qb.mk (Below.refl w.heap.size w)
 have H : (if (l0_0.length : Int) = (l1_0.length : Int) then (zc.l0 k (l0_0.length : Int) 0 l0_0 l1_0) else (some false)) = some r := h
 clear h
 by_cases c3 : (l0_0.length : Int) = (l1_0.length : Int)
 ·rw [if_pos c3] at H
  have c3b0 : ((l0_0.length : Int) == (l1_0.length : Int)) = true := beq_iff_eq.mpr c3
  have c3b1 : ((l0_0.length : Int) != (l1_0.length : Int)) = false := bne_eq_false_iff_eq.mpr c3
  have c3b2 : (l0_0.length == l1_0.length) = true := by first | simpa using c3 | (simp at c3 ⊢; omega)
  clear c3
  have H' := qb.mk H
  clear H
  go_enter Tryd.func24, Tryd.ntmps24
  go_wp2_with (first | ((with_reducible refine zw (N := 2) rfl ?_); refine zq ?hg (N := 2) ?hd (cs := #[.slice A0_0 l0_0.length c0_0]) (t := 24) ?hr ?_; (case hd => rfl); (case hg => rfl); (case hr => first | (go_simp; done) | (go_simp; rfl)); intro gb317 hg w4 hbox hb; have n0_ := qb.mk (qu (by repeat (first | (with_reducible first | exact HB.out | apply qc | apply qa | apply qd) | exact HB.out)) hb); have n1_ := qb.mk (hbox); have n2_ := qb.mk ((by rw [hg]; exact (qm (by repeat (first | (with_reducible first | exact HB.out | apply qc | apply qa | apply qd) | exact HB.out))) : w.heap.size ≤ gb317)); have n3_ := qb.mk ((by rw [hg]; exact (qm (by repeat (first | (with_reducible first | exact HB.out | apply qc | apply qa | apply qd) | exact HB.out))) : w.heap.size ≤ gb317)); clear HB; have HB := n0_; have BK317 := n1_; have GW317 := n2_; have GE317 := n3_; clear n0_ n1_ n2_ n3_; clear hb hbox hg) | ((with_reducible refine zw (N := 3) rfl ?_); refine zq ?hg (N := 3) ?hd (cs := #[.slice A1_0 l1_0.length c1_0]) (t := 24) ?hr ?_; (case hd => rfl); (case hg => rfl); (case hr => first | (go_simp; done) | (go_simp; rfl)); intro gb318 hg w5 hbox hb; have n0_ := qb.mk (zd (g := gb317) (o := .cells #[.slice A0_0 l0_0.length c0_0] 24 (0, 0)) (by (with_reducible repeat (first | refine qe ?_ _ | refine qh ?_ | refine qf ?_ _)); exact BK317.out) hb); have n1_ := qb.mk (qu (by repeat (first | (with_reducible first | exact HB.out | apply qc | apply qa | apply qd | refine qg ?_ GE317.out) | exact HB.out)) hb); have n2_ := qb.mk (hbox); have n3_ := qb.mk ((by rw [hg]; exact (qm (by repeat (first | (with_reducible first | exact HB.out | apply qc | apply qa | apply qd | refine qg ?_ GE317.out) | exact HB.out))) : w.heap.size ≤ gb318)); have n4_ := qb.mk ((by rw [hg]; exact (qm (by repeat (first | (with_reducible first | exact HB.out | apply qc | apply qa | apply qd | refine qg ?_ GE317.out) | exact HB.out))) : w.heap.size ≤ gb318)); have n5_ := qb.mk ((by rw [hg]; exact Nat.ne_of_lt (z7 (g := gb317) (o := .cells #[.slice A0_0 l0_0.length c0_0] 24 (0, 0)) (by (with_reducible repeat (first | refine qe ?_ _ | refine qh ?_ | refine qf ?_ _)); exact BK317.out)) : gb317 ≠ gb318)); have n6_ := qb.mk ((by rw [hg]; exact Nat.ne_of_gt (z7 (g := gb317) (o := .cells #[.slice A0_0 l0_0.length c0_0] 24 (0, 0)) (by (with_reducible repeat (first | refine qe ?_ _ | refine qh ?_ | refine qf ?_ _)); exact BK317.out)) : gb318 ≠ gb317)); clear BK317; clear HB; have BK317 := n0_; have HB := n1_; have BK318 := n2_; have GW318 := n3_; have GE318 := n4_; have NB317_318 := n5_; have NB318_317 := n6_; clear n0_ n1_ n2_ n3_ n4_ n5_ n6_; clear hb hbox hg; have hnb6 := NB317_318.out; have hnc6 := NB318_317.out; have hcz7_0 : w5.cell? ⟨gb317, 0, none⟩ = some (.slice A0_0 l0_0.length c0_0) := (qq BK317.out 0).trans rfl; have hfz7_0 := ql BK317.out 0; have hcz8_0 : w5.cell? ⟨gb318, 0, none⟩ = some (.slice A1_0 l1_0.length c1_0) := (qq BK318.out 0).trans rfl; have hfz8_0 := ql BK318.out 0))
  repeat (go_quiet (first | ((with_reducible refine zw (N := 2) rfl ?_); refine zq ?hg (N := 2) ?hd (cs := #[.slice A0_0 l0_0.length c0_0]) (t := 24) ?hr ?_; (case hd => rfl); (case hg => rfl); (case hr => first | (go_simp; done) | (go_simp; rfl)); intro gb317 hg w4 hbox hb; have n0_ := qb.mk (qu (by repeat (first | (with_reducible first | exact HB.out | apply qc | apply qa | apply qd) | exact HB.out)) hb); have n1_ := qb.mk (hbox); have n2_ := qb.mk ((by rw [hg]; exact (qm (by repeat (first | (with_reducible first | exact HB.out | apply qc | apply qa | apply qd) | exact HB.out))) : w.heap.size ≤ gb317)); have n3_ := qb.mk ((by rw [hg]; exact (qm (by repeat (first | (with_reducible first | exact HB.out | apply qc | apply qa | apply qd) | exact HB.out))) : w.heap.size ≤ gb317)); clear HB; have HB := n0_; have BK317 := n1_; have GW317 := n2_; have GE317 := n3_; clear n0_ n1_ n2_ n3_; clear hb hbox hg) | ((with_reducible refine zw (N := 3) rfl ?_); refine zq ?hg (N := 3) ?hd (cs := #[.slice A1_0 l1_0.length c1_0]) (t := 24) ?hr ?_; (case hd => rfl); (case hg => rfl); (case hr => first | (go_simp; done) | (go_simp; rfl)); intro gb318 hg w5 hbox hb; have n0_ := qb.mk (zd (g := gb317) (o := .cells #[.slice A0_0 l0_0.length c0_0] 24 (0, 0)) (by (with_reducible repeat (first | refine qe ?_ _ | refine qh ?_ | refine qf ?_ _)); exact BK317.out) hb); have n1_ := qb.mk (qu (by repeat (first | (with_reducible first | exact HB.out | apply qc | apply qa | apply qd | refine qg ?_ GE317.out) | exact HB.out)) hb); have n2_ := qb.mk (hbox); have n3_ := qb.mk ((by rw [hg]; exact (qm (by repeat (first | (with_reducible first | exact HB.out | apply qc | apply qa | apply qd | refine qg ?_ GE317.out) | exact HB.out))) : w.heap.size ≤ gb318)); have n4_ := qb.mk ((by rw [hg]; exact (qm (by repeat (first | (with_reducible first | exact HB.out | apply qc | apply qa | apply qd | refine qg ?_ GE317.out) | exact HB.out))) : w.heap.size ≤ gb318)); have n5_ := qb.mk ((by rw [hg]; exact Nat.ne_of_lt (z7 (g := gb317) (o := .cells #[.slice A0_0 l0_0.length c0_0] 24 (0, 0)) (by (with_reducible repeat (first | refine qe ?_ _ | refine qh ?_ | refine qf ?_ _)); exact BK317.out)) : gb317 ≠ gb318)); have n6_ := qb.mk ((by rw [hg]; exact Nat.ne_of_gt (z7 (g := gb317) (o := .cells #[.slice A0_0 l0_0.length c0_0] 24 (0, 0)) (by (with_reducible repeat (first | refine qe ?_ _ | refine qh ?_ | refine qf ?_ _)); exact BK317.out)) : gb318 ≠ gb317)); clear BK317; clear HB; have BK317 := n0_; have HB := n1_; have BK318 := n2_; have GW318 := n3_; have GE318 := n4_; have NB317_318 := n5_; have NB318_317 := n6_; clear n0_ n1_ n2_ n3_ n4_ n5_ n6_; clear hb hbox hg; have hnb6 := NB317_318.out; have hnc6 := NB318_317.out; have hcz7_0 : w5.cell? ⟨gb317, 0, none⟩ = some (.slice A0_0 l0_0.length c0_0) := (qq BK317.out 0).trans rfl; have hfz7_0 := ql BK317.out 0; have hcz8_0 : w5.cell? ⟨gb318, 0, none⟩ = some (.slice A1_0 l1_0.length c1_0) := (qq BK318.out 0).trans rfl; have hfz8_0 := ql BK318.out 0)); try go_wp2_with (first | ((with_reducible refine zw (N := 2) rfl ?_); refine zq ?hg (N := 2) ?hd (cs := #[.slice A0_0 l0_0.length c0_0]) (t := 24) ?hr ?_; (case hd => rfl); (case hg => rfl); (case hr => first | (go_simp; done) | (go_simp; rfl)); intro gb317 hg w4 hbox hb; have n0_ := qb.mk (qu (by repeat (first | (with_reducible first | exact HB.out | apply qc | apply qa | apply qd) | exact HB.out)) hb); have n1_ := qb.mk (hbox); have n2_ := qb.mk ((by rw [hg]; exact (qm (by repeat (first | (with_reducible first | exact HB.out | apply qc | apply qa | apply qd) | exact HB.out))) : w.heap.size ≤ gb317)); have n3_ := qb.mk ((by rw [hg]; exact (qm (by repeat (first | (with_reducible first | exact HB.out | apply qc | apply qa | apply qd) | exact HB.out))) : w.heap.size ≤ gb317)); clear HB; have HB := n0_; have BK317 := n1_; have GW317 := n2_; have GE317 := n3_; clear n0_ n1_ n2_ n3_; clear hb hbox hg) | ((with_reducible refine zw (N := 3) rfl ?_); refine zq ?hg (N := 3) ?hd (cs := #[.slice A1_0 l1_0.length c1_0]) (t := 24) ?hr ?_; (case hd => rfl); (case hg => rfl); (case hr => first | (go_simp; done) | (go_simp; rfl)); intro gb318 hg w5 hbox hb; have n0_ := qb.mk (zd (g := gb317) (o := .cells #[.slice A0_0 l0_0.length c0_0] 24 (0, 0)) (by (with_reducible repeat (first | refine qe ?_ _ | refine qh ?_ | refine qf ?_ _)); exact BK317.out) hb); have n1_ := qb.mk (qu (by repeat (first | (with_reducible first | exact HB.out | apply qc | apply qa | apply qd | refine qg ?_ GE317.out) | exact HB.out)) hb); have n2_ := qb.mk (hbox); have n3_ := qb.mk ((by rw [hg]; exact (qm (by repeat (first | (with_reducible first | exact HB.out | apply qc | apply qa | apply qd | refine qg ?_ GE317.out) | exact HB.out))) : w.heap.size ≤ gb318)); have n4_ := qb.mk ((by rw [hg]; exact (qm (by repeat (first | (with_reducible first | exact HB.out | apply qc | apply qa | apply qd | refine qg ?_ GE317.out) | exact HB.out))) : w.heap.size ≤ gb318)); have n5_ := qb.mk ((by rw [hg]; exact Nat.ne_of_lt (z7 (g := gb317) (o := .cells #[.slice A0_0 l0_0.length c0_0] 24 (0, 0)) (by (with_reducible repeat (first | refine qe ?_ _ | refine qh ?_ | refine qf ?_ _)); exact BK317.out)) : gb317 ≠ gb318)); have n6_ := qb.mk ((by rw [hg]; exact Nat.ne_of_gt (z7 (g := gb317) (o := .cells #[.slice A0_0 l0_0.length c0_0] 24 (0, 0)) (by (with_reducible repeat (first | refine qe ?_ _ | refine qh ?_ | refine qf ?_ _)); exact BK317.out)) : gb318 ≠ gb317)); clear BK317; clear HB; have BK317 := n0_; have HB := n1_; have BK318 := n2_; have GW318 := n3_; have GE318 := n4_; have NB317_318 := n5_; have NB318_317 := n6_; clear n0_ n1_ n2_ n3_ n4_ n5_ n6_; clear hb hbox hg; have hnb6 := NB317_318.out; have hnc6 := NB318_317.out; have hcz7_0 : w5.cell? ⟨gb317, 0, none⟩ = some (.slice A0_0 l0_0.length c0_0) := (qq BK317.out 0).trans rfl; have hfz7_0 := ql BK317.out 0; have hcz8_0 : w5.cell? ⟨gb318, 0, none⟩ = some (.slice A1_0 l1_0.length c1_0) := (qq BK318.out 0).trans rfl; have hfz8_0 := ql BK318.out 0)))
  go_loopg [17] k (fun kq v17 w' => ∃ (x17_1 : Int), v17 = .int .i64 x17_1 ∧ qb (zc.l0 kq (l0_0.length : Int) x17_1 l0_0 l1_0 = some r) ∧ qb (kq ≤ k) ∧ qb (w'.heap[gb317]? = some (.cells #[(.slice A0_0 l0_0.length c0_0)] 24 (0, 0))) ∧ qb (w'.heap[gb318]? = some (.cells #[(.slice A1_0 l1_0.length c1_0)] 24 (0, 0))) ∧ qb (Below w.heap.size w w'))
  case atStart => exact ⟨(0), (by first | rfl | (simp; done) | (simp [*]; done)), H', ⟨Nat.le_refl _⟩, ⟨by (with_reducible repeat (first | refine qe ?_ _ | refine qh ?_ | refine qf ?_ _)); exact BK317.out⟩, ⟨by (with_reducible repeat (first | refine qe ?_ _ | refine qh ?_ | refine qf ?_ _)); exact BK318.out⟩, ⟨by repeat (first | (with_reducible first | exact HB.out | apply qc | apply qa | apply qd | refine qg ?_ GE317.out | refine qg ?_ GE318.out) | exact HB.out)⟩⟩
  case round =>
   clear H'
   (try clear c1); (try clear c2); (try clear p2); (try clear c3); (try clear c3b0); (try clear c3b1); (try clear c3b2); (try clear c6); (try clear hcz7_0); (try clear hcz8_0); (try clear hfz7_0); try clear hfz8_0
   obtain ⟨x17_1, rfl, HA, HK1, BK317, BK318, HB⟩ := hrel
   cases gk with
   | zero => exact absurd HA.out (by simp [zc.l0])
   | succ k1 =>
    have H := HA.out
    clear HA
    simp only [zc.l0] at H
    by_cases c9 : x17_1 < (l0_0.length : Int)
    ·rw [if_pos c9] at H
     have c9b0 : decide (x17_1 < (l0_0.length : Int)) = true := decide_eq_true c9
     clear c9
     by_cases c10 : 0 ≤ x17_1
     ·rw [if_pos c10] at H
      have c10b0 : decide (0 ≤ x17_1) = true := decide_eq_true c10
      clear c10
      by_cases c11 : x17_1 < (l0_0.length : Int)
      ·rw [if_pos c11] at H
       have c11b0 : decide (x17_1 < (l0_0.length : Int)) = true := decide_eq_true c11
       clear c11
       by_cases c12 : x17_1 < (l1_0.length : Int)
       ·rw [if_pos c12] at H
        have c12b0 : decide (x17_1 < (l1_0.length : Int)) = true := decide_eq_true c12
        clear c12
        by_cases c13 : ((xh l0_0 x17_1).length : Int) = ((xh l1_0 x17_1).length : Int)
        ·rw [if_pos c13] at H
         have c13b0 : (((xh l0_0 x17_1).length : Int) == ((xh l1_0 x17_1).length : Int)) = true := beq_iff_eq.mpr c13
         have c13b1 : (((xh l0_0 x17_1).length : Int) != ((xh l1_0 x17_1).length : Int)) = false := bne_eq_false_iff_eq.mpr c13
         have c13b2 : ((xh l0_0 x17_1).length == (xh l1_0 x17_1).length) = true := by first | simpa using c13 | (simp at c13 ⊢; omega)
         clear c13
         have H' := qb.mk H
         clear H
         have hnb14 := NB317_318.out
         have hnc14 := NB318_317.out
         have hcz15_0 : wr.cell? ⟨gb317, 0, none⟩ = some (.slice A0_0 l0_0.length c0_0) := (qq BK317.out 0).trans rfl
         have hfz15_0 := ql BK317.out 0
         have p319 : 0 ≤ (x17_1 : Int) := of_decide_eq_true (by first | (with_reducible assumption) | assumption)
         have q319 : x17_1 < (l0_0.length : Int) := of_decide_eq_true (by first | (with_reducible assumption) | assumption)
         obtain ⟨ad319, A319_0, c319_0, e319, hx319_0, hl319_0, hi319_0⟩ := at_L4 HR0_0.out x17_1 p319 q319
         cases e319
         replace hx319_0 := (HB.out.cell (World.block_lt_of_cell? w _ hx319_0)).trans hx319_0
         have HR319_0 := qb.mk hi319_0
         have HC319_0 := qb.mk hl319_0
         clear hi319_0 hl319_0
         replace p319 := eq_true p319
         replace q319 := eq_true q319
         have hcz16_0 : wr.cell? ⟨gb318, 0, none⟩ = some (.slice A1_0 l1_0.length c1_0) := (qq BK318.out 0).trans rfl
         have hfz16_0 := ql BK318.out 0
         have p320 : 0 ≤ (x17_1 : Int) := of_decide_eq_true (by first | (with_reducible assumption) | assumption)
         have q320 : x17_1 < (l1_0.length : Int) := of_decide_eq_true (by first | (with_reducible assumption) | assumption)
         obtain ⟨ad320, A320_0, c320_0, e320, hx320_0, hl320_0, hi320_0⟩ := at_L4 HR1_0.out x17_1 p320 q320
         cases e320
         replace hx320_0 := (HB.out.cell (World.block_lt_of_cell? w _ hx320_0)).trans hx320_0
         have HR320_0 := qb.mk hi320_0
         have HC320_0 := qb.mk hl320_0
         clear hi320_0 hl320_0
         replace p320 := eq_true p320
         replace q320 := eq_true q320
         have p321 : 0 ≤ (x17_1 : Int) := of_decide_eq_true (by first | (with_reducible assumption) | assumption)
         have q321 : x17_1 < (l0_0.length : Int) := of_decide_eq_true (by first | (with_reducible assumption) | assumption)
         obtain ⟨ad321, A321_0, c321_0, e321, hx321_0, hl321_0, hi321_0⟩ := at_L4 HR0_0.out x17_1 p321 q321
         obtain rfl : ad319 = ad321 := (by injection e321)
         replace hx321_0 := (HB.out.cell (World.block_lt_of_cell? w _ hx321_0)).trans hx321_0
         have HR321_0 := qb.mk hi321_0
         have HC321_0 := qb.mk hl321_0
         clear hi321_0 hl321_0
         replace p321 := eq_true p321
         replace q321 := eq_true q321
         have ea_ := Option.some.inj (hx319_0.symm.trans hx321_0)
         injection ea_ with ea_ en_ ec_
         subst ea_
         subst ec_
         clear en_
         go_wp2
         repeat (go_quiet (fail); try go_wp2)
         go_loopg [39] k1 (fun kq v39 w' => ∃ (x39_2 : Int), v39 = .int .i64 x39_2 ∧ qb (zc.l1 kq x17_1 (l0_0.length : Int) x17_1 ((xh l0_0 x17_1).length : Int) x39_2 l0_0 l1_0 = some r) ∧ qb (kq ≤ k1) ∧ qb (w'.heap[gb317]? = some (.cells #[(.slice (some ad319) l0_0.length c0_0)] 24 (0, 0))) ∧ qb (w'.heap[gb318]? = some (.cells #[(.slice (some ad320) l1_0.length c1_0)] 24 (0, 0))) ∧ qb (Below w.heap.size w w'))
         case atStart => exact ⟨(0), (by first | rfl | (simp; done) | (simp [*]; done)), H', ⟨Nat.le_refl _⟩, ⟨by (with_reducible repeat (first | refine qe ?_ _ | refine qh ?_ | refine qf ?_ _)); exact BK317.out⟩, ⟨by (with_reducible repeat (first | refine qe ?_ _ | refine qh ?_ | refine qf ?_ _)); exact BK318.out⟩, ⟨by repeat (first | (with_reducible first | exact HB.out | apply qc | apply qa | apply qd | refine qg ?_ GE317.out | refine qg ?_ GE318.out) | exact HB.out)⟩⟩
         case round =>
          clear H'
          (try clear c1); (try clear c2); (try clear p2); (try clear c3); (try clear c3b0); (try clear c3b1); (try clear c3b2); (try clear p3); (try clear q3); (try clear hx3); (try clear c6); try clear c9
          (try clear c9b0); (try clear c10); (try clear c10b0); (try clear c11); (try clear c11b0); (try clear c12); (try clear c12b0); (try clear c13); (try clear c13b0); (try clear c13b1); try clear c13b2
          (try clear c14); (try clear hcz15_0); (try clear hcz16_0); (try clear hcz7_0); (try clear hcz8_0); (try clear hfz15_0); (try clear hfz16_0); (try clear hfz7_0); (try clear hfz8_0); try clear hx319_0
          (try clear hx320_0); (try clear hx321_0); (try clear p2); (try clear p319); (try clear p320); (try clear p321); (try clear q319); (try clear q320); try clear q321
          obtain ⟨x39_2, rfl, HA, HK2, BK317, BK318, HB⟩ := hrel
          cases gk with
          | zero => exact absurd HA.out (by simp [zc.l1])
          | succ k2 =>
           have H := HA.out
           clear HA
           simp only [zc.l1] at H
           by_cases c17 : x39_2 < ((xh l0_0 x17_1).length : Int)
           ·rw [if_pos c17] at H
            have c17b0 : decide (x39_2 < ((xh l0_0 x17_1).length : Int)) = true := decide_eq_true c17
            clear c17
            by_cases c18 : 0 ≤ x17_1
            ·rw [if_pos c18] at H
             have c18b0 : decide (0 ≤ x17_1) = true := decide_eq_true c18
             clear c18
             by_cases c19 : x17_1 < (l0_0.length : Int)
             ·rw [if_pos c19] at H
              have c19b0 : decide (x17_1 < (l0_0.length : Int)) = true := decide_eq_true c19
              clear c19
              by_cases c20 : 0 ≤ x39_2
              ·rw [if_pos c20] at H
               have c20b0 : decide (0 ≤ x39_2) = true := decide_eq_true c20
               clear c20
               by_cases c21 : x39_2 < ((xh l0_0 x17_1).length : Int)
               ·rw [if_pos c21] at H
                have c21b0 : decide (x39_2 < ((xh l0_0 x17_1).length : Int)) = true := decide_eq_true c21
                clear c21
                by_cases c22 : x17_1 < (l1_0.length : Int)
                ·rw [if_pos c22] at H
                 have c22b0 : decide (x17_1 < (l1_0.length : Int)) = true := decide_eq_true c22
                 clear c22
                 by_cases c23 : x39_2 < ((xh l1_0 x17_1).length : Int)
                 ·rw [if_pos c23] at H
                  have c23b0 : decide (x39_2 < ((xh l1_0 x17_1).length : Int)) = true := decide_eq_true c23
                  clear c23
                  by_cases c24 : (!((((qv (xh l0_0 x17_1) x39_2).f0).toList) == (((qv (xh l1_0 x17_1) x39_2).f0).toList)) || (!(((qv (xh l0_0 x17_1) x39_2).f1) == ((qv (xh l1_0 x17_1) x39_2).f1)) || (!((((qv (xh l0_0 x17_1) x39_2).f2).toList) == (((qv (xh l1_0 x17_1) x39_2).f2).toList))))) = true
                  ·rw [if_pos c24] at H
                   have c24b0 : (!((((qv (xh l0_0 x17_1) x39_2).f0).toList) == (((qv (xh l1_0 x17_1) x39_2).f0).toList)) || (!(((qv (xh l0_0 x17_1) x39_2).f1) == ((qv (xh l1_0 x17_1) x39_2).f1)) || (!((((qv (xh l0_0 x17_1) x39_2).f2).toList) == (((qv (xh l1_0 x17_1) x39_2).f2).toList))))) = true := c24
                   clear c24
                   obtain rfl := Option.some.inj H
                   have hnb25 := NB317_318.out
                   have hnc25 := NB318_317.out
                   have hcz26_0 : wr.cell? ⟨gb317, 0, none⟩ = some (.slice (some ad319) l0_0.length c0_0) := (qq BK317.out 0).trans rfl
                   have hfz26_0 := ql BK317.out 0
                   have p322 : 0 ≤ (x17_1 : Int) := of_decide_eq_true (by first | (with_reducible assumption) | assumption)
                   have q322 : x17_1 < (l0_0.length : Int) := of_decide_eq_true (by first | (with_reducible assumption) | assumption)
                   obtain ⟨ad322, A322_0, c322_0, e322, hx322_0, hl322_0, hi322_0⟩ := at_L4 HR0_0.out x17_1 p322 q322
                   obtain rfl : ad319 = ad322 := (by injection e322)
                   replace hx322_0 := (HB.out.cell (World.block_lt_of_cell? w _ hx322_0)).trans hx322_0
                   have HR322_0 := qb.mk hi322_0
                   have HC322_0 := qb.mk hl322_0
                   clear hi322_0 hl322_0
                   replace p322 := eq_true p322
                   replace q322 := eq_true q322
                   have p323 : 0 ≤ (x39_2 : Int) := of_decide_eq_true (by first | (with_reducible assumption) | assumption)
                   have q323 : x39_2 < ((xh l0_0 x17_1).length : Int) := of_decide_eq_true (by first | (with_reducible assumption) | assumption)
                   obtain ⟨ad323, e323, hx323_0, hx323_1, hx323_2⟩ := at_T26 HR322_0.out x39_2 p323 q323
                   cases e323
                   replace hx323_0 := (HB.out.cell (World.block_lt_of_cell? w _ hx323_0)).trans hx323_0
                   replace hx323_1 := (HB.out.cell (World.block_lt_of_cell? w _ hx323_1)).trans hx323_1
                   replace hx323_2 := (HB.out.cell (World.block_lt_of_cell? w _ hx323_2)).trans hx323_2
                   replace p323 := eq_true p323
                   replace q323 := eq_true q323
                   have hcz27_0 : wr.cell? ⟨gb318, 0, none⟩ = some (.slice (some ad320) l1_0.length c1_0) := (qq BK318.out 0).trans rfl
                   have hfz27_0 := ql BK318.out 0
                   have p324 : 0 ≤ (x17_1 : Int) := of_decide_eq_true (by first | (with_reducible assumption) | assumption)
                   have q324 : x17_1 < (l1_0.length : Int) := of_decide_eq_true (by first | (with_reducible assumption) | assumption)
                   obtain ⟨ad324, A324_0, c324_0, e324, hx324_0, hl324_0, hi324_0⟩ := at_L4 HR1_0.out x17_1 p324 q324
                   obtain rfl : ad320 = ad324 := (by injection e324)
                   replace hx324_0 := (HB.out.cell (World.block_lt_of_cell? w _ hx324_0)).trans hx324_0
                   have HR324_0 := qb.mk hi324_0
                   have HC324_0 := qb.mk hl324_0
                   clear hi324_0 hl324_0
                   replace p324 := eq_true p324
                   replace q324 := eq_true q324
                   have p325 : 0 ≤ (x39_2 : Int) := of_decide_eq_true (by first | (with_reducible assumption) | assumption)
                   have q325 : x39_2 < ((xh l1_0 x17_1).length : Int) := of_decide_eq_true (by first | (with_reducible assumption) | assumption)
                   obtain ⟨ad325, e325, hx325_0, hx325_1, hx325_2⟩ := at_T26 HR324_0.out x39_2 p325 q325
                   cases e325
                   replace hx325_0 := (HB.out.cell (World.block_lt_of_cell? w _ hx325_0)).trans hx325_0
                   replace hx325_1 := (HB.out.cell (World.block_lt_of_cell? w _ hx325_1)).trans hx325_1
                   replace hx325_2 := (HB.out.cell (World.block_lt_of_cell? w _ hx325_2)).trans hx325_2
                   replace p325 := eq_true p325
                   replace q325 := eq_true q325
                   go_wp2
                   repeat (go_quiet (fail); try go_wp2)
                   go_ret
                   exact ⟨by first | rfl | (simp [qy, qx] <;> rfl) | (simp [*, qy, qx] <;> rfl), by repeat (first | (with_reducible first | exact HB.out | apply qc | apply qa | apply qd | refine qg ?_ GE317.out | refine qg ?_ GE318.out) | exact HB.out)⟩
                  ·rw [if_neg c24] at H
                   have c24b0 : (!((((qv (xh l0_0 x17_1) x39_2).f0).toList) == (((qv (xh l1_0 x17_1) x39_2).f0).toList)) || (!(((qv (xh l0_0 x17_1) x39_2).f1) == ((qv (xh l1_0 x17_1) x39_2).f1)) || (!((((qv (xh l0_0 x17_1) x39_2).f2).toList) == (((qv (xh l1_0 x17_1) x39_2).f2).toList))))) = false := by simpa using c24
                   clear c24
                   have H' := qb.mk H
                   clear H
                   have hnb28 := NB317_318.out
                   have hnc28 := NB318_317.out
                   have hcz29_0 : wr.cell? ⟨gb317, 0, none⟩ = some (.slice (some ad319) l0_0.length c0_0) := (qq BK317.out 0).trans rfl
                   have hfz29_0 := ql BK317.out 0
                   have p322 : 0 ≤ (x17_1 : Int) := of_decide_eq_true (by first | (with_reducible assumption) | assumption)
                   have q322 : x17_1 < (l0_0.length : Int) := of_decide_eq_true (by first | (with_reducible assumption) | assumption)
                   obtain ⟨ad322, A322_0, c322_0, e322, hx322_0, hl322_0, hi322_0⟩ := at_L4 HR0_0.out x17_1 p322 q322
                   obtain rfl : ad319 = ad322 := (by injection e322)
                   replace hx322_0 := (HB.out.cell (World.block_lt_of_cell? w _ hx322_0)).trans hx322_0
                   have HR322_0 := qb.mk hi322_0
                   have HC322_0 := qb.mk hl322_0
                   clear hi322_0 hl322_0
                   replace p322 := eq_true p322
                   replace q322 := eq_true q322
                   have p323 : 0 ≤ (x39_2 : Int) := of_decide_eq_true (by first | (with_reducible assumption) | assumption)
                   have q323 : x39_2 < ((xh l0_0 x17_1).length : Int) := of_decide_eq_true (by first | (with_reducible assumption) | assumption)
                   obtain ⟨ad323, e323, hx323_0, hx323_1, hx323_2⟩ := at_T26 HR322_0.out x39_2 p323 q323
                   cases e323
                   replace hx323_0 := (HB.out.cell (World.block_lt_of_cell? w _ hx323_0)).trans hx323_0
                   replace hx323_1 := (HB.out.cell (World.block_lt_of_cell? w _ hx323_1)).trans hx323_1
                   replace hx323_2 := (HB.out.cell (World.block_lt_of_cell? w _ hx323_2)).trans hx323_2
                   replace p323 := eq_true p323
                   replace q323 := eq_true q323
                   have hcz30_0 : wr.cell? ⟨gb318, 0, none⟩ = some (.slice (some ad320) l1_0.length c1_0) := (qq BK318.out 0).trans rfl
                   have hfz30_0 := ql BK318.out 0
                   have p324 : 0 ≤ (x17_1 : Int) := of_decide_eq_true (by first | (with_reducible assumption) | assumption)
                   have q324 : x17_1 < (l1_0.length : Int) := of_decide_eq_true (by first | (with_reducible assumption) | assumption)
                   obtain ⟨ad324, A324_0, c324_0, e324, hx324_0, hl324_0, hi324_0⟩ := at_L4 HR1_0.out x17_1 p324 q324
                   obtain rfl : ad320 = ad324 := (by injection e324)
                   replace hx324_0 := (HB.out.cell (World.block_lt_of_cell? w _ hx324_0)).trans hx324_0
                   have HR324_0 := qb.mk hi324_0
                   have HC324_0 := qb.mk hl324_0
                   clear hi324_0 hl324_0
                   replace p324 := eq_true p324
                   replace q324 := eq_true q324
                   have p325 : 0 ≤ (x39_2 : Int) := of_decide_eq_true (by first | (with_reducible assumption) | assumption)
                   have q325 : x39_2 < ((xh l1_0 x17_1).length : Int) := of_decide_eq_true (by first | (with_reducible assumption) | assumption)
                   obtain ⟨ad325, e325, hx325_0, hx325_1, hx325_2⟩ := at_T26 HR324_0.out x39_2 p325 q325
                   cases e325
                   replace hx325_0 := (HB.out.cell (World.block_lt_of_cell? w _ hx325_0)).trans hx325_0
                   replace hx325_1 := (HB.out.cell (World.block_lt_of_cell? w _ hx325_1)).trans hx325_1
                   replace hx325_2 := (HB.out.cell (World.block_lt_of_cell? w _ hx325_2)).trans hx325_2
                   replace p325 := eq_true p325
                   replace q325 := eq_true q325
                   go_wp2
                   repeat (go_quiet (fail); try go_wp2)
                   go_roundg k2
                   case measure => have := HK1.out; have := HK2.out; omega
                   case rel => exact ⟨(wrap64 (x39_2 + 1)), (by first | rfl | (simp; done) | (simp [*]; done)), H', ⟨by have := HK1.out; have := HK2.out; omega⟩, ⟨by (with_reducible repeat (first | refine qe ?_ _ | refine qh ?_ | refine qf ?_ _)); exact BK317.out⟩, ⟨by (with_reducible repeat (first | refine qe ?_ _ | refine qh ?_ | refine qf ?_ _)); exact BK318.out⟩, ⟨by repeat (first | (with_reducible first | exact HB.out | apply qc | apply qa | apply qd | refine qg ?_ GE317.out | refine qg ?_ GE318.out) | exact HB.out)⟩⟩
                 ·rw [if_neg c23] at H
                  exact absurd H (by simp)
                ·rw [if_neg c22] at H
                 exact absurd H (by simp)
               ·rw [if_neg c21] at H
                exact absurd H (by simp)
              ·rw [if_neg c20] at H
               exact absurd H (by simp)
             ·rw [if_neg c19] at H
              exact absurd H (by simp)
            ·rw [if_neg c18] at H
             exact absurd H (by simp)
           ·rw [if_neg c17] at H
            have c17b0 : decide (x39_2 < ((xh l0_0 x17_1).length : Int)) = false := decide_eq_false c17
            clear c17
            have H' := qb.mk H
            clear H
            go_wp2
            repeat (go_quiet (fail); try go_wp2)
            go_roundg k2
            case measure => have := HK1.out; have := HK2.out; omega
            case rel => exact ⟨(wrap64 (x17_1 + 1)), (by first | rfl | (simp; done) | (simp [*]; done)), H', ⟨by have := HK1.out; have := HK2.out; omega⟩, ⟨by (with_reducible repeat (first | refine qe ?_ _ | refine qh ?_ | refine qf ?_ _)); exact BK317.out⟩, ⟨by (with_reducible repeat (first | refine qe ?_ _ | refine qh ?_ | refine qf ?_ _)); exact BK318.out⟩, ⟨by repeat (first | (with_reducible first | exact HB.out | apply qc | apply qa | apply qd | refine qg ?_ GE317.out | refine qg ?_ GE318.out) | exact HB.out)⟩⟩
        ·rw [if_neg c13] at H
         have c13b0 : (((xh l0_0 x17_1).length : Int) == ((xh l1_0 x17_1).length : Int)) = false := beq_eq_false_iff_ne.mpr c13
         have c13b1 : (((xh l0_0 x17_1).length : Int) != ((xh l1_0 x17_1).length : Int)) = true := bne_iff_ne.mpr c13
         have c13b2 : ((xh l0_0 x17_1).length == (xh l1_0 x17_1).length) = false := by first | simpa using c13 | (simp at c13 ⊢; omega)
         obtain rfl := Option.some.inj H
         have hnb31 := NB317_318.out
         have hnc31 := NB318_317.out
         have hcz32_0 : wr.cell? ⟨gb317, 0, none⟩ = some (.slice A0_0 l0_0.length c0_0) := (qq BK317.out 0).trans rfl
         have hfz32_0 := ql BK317.out 0
         have p319 : 0 ≤ (x17_1 : Int) := of_decide_eq_true (by first | (with_reducible assumption) | assumption)
         have q319 : x17_1 < (l0_0.length : Int) := of_decide_eq_true (by first | (with_reducible assumption) | assumption)
         obtain ⟨ad319, A319_0, c319_0, e319, hx319_0, hl319_0, hi319_0⟩ := at_L4 HR0_0.out x17_1 p319 q319
         cases e319
         replace hx319_0 := (HB.out.cell (World.block_lt_of_cell? w _ hx319_0)).trans hx319_0
         have HR319_0 := qb.mk hi319_0
         have HC319_0 := qb.mk hl319_0
         clear hi319_0 hl319_0
         replace p319 := eq_true p319
         replace q319 := eq_true q319
         have hcz33_0 : wr.cell? ⟨gb318, 0, none⟩ = some (.slice A1_0 l1_0.length c1_0) := (qq BK318.out 0).trans rfl
         have hfz33_0 := ql BK318.out 0
         have p320 : 0 ≤ (x17_1 : Int) := of_decide_eq_true (by first | (with_reducible assumption) | assumption)
         have q320 : x17_1 < (l1_0.length : Int) := of_decide_eq_true (by first | (with_reducible assumption) | assumption)
         obtain ⟨ad320, A320_0, c320_0, e320, hx320_0, hl320_0, hi320_0⟩ := at_L4 HR1_0.out x17_1 p320 q320
         cases e320
         replace hx320_0 := (HB.out.cell (World.block_lt_of_cell? w _ hx320_0)).trans hx320_0
         have HR320_0 := qb.mk hi320_0
         have HC320_0 := qb.mk hl320_0
         clear hi320_0 hl320_0
         replace p320 := eq_true p320
         replace q320 := eq_true q320
         go_wp2
         repeat (go_quiet (fail); try go_wp2)
         go_ret
         exact ⟨by first | rfl | (simp [qy, qx] <;> rfl) | (simp [*, qy, qx] <;> rfl), by repeat (first | (with_reducible first | exact HB.out | apply qc | apply qa | apply qd | refine qg ?_ GE317.out | refine qg ?_ GE318.out) | exact HB.out)⟩
       ·rw [if_neg c12] at H
        exact absurd H (by simp)
      ·rw [if_neg c11] at H
       exact absurd H (by simp)
     ·rw [if_neg c10] at H
      exact absurd H (by simp)
    ·rw [if_neg c9] at H
     have c9b0 : decide (x17_1 < (l0_0.length : Int)) = false := decide_eq_false c9
     clear c9
     obtain rfl := Option.some.inj H
     go_wp2
     repeat (go_quiet (fail); try go_wp2)
     go_ret
     exact ⟨by first | rfl | (simp [qy, qx] <;> rfl) | (simp [*, qy, qx] <;> rfl), by repeat (first | (with_reducible first | exact HB.out | apply qc | apply qa | apply qd | refine qg ?_ GE317.out | refine qg ?_ GE318.out) | exact HB.out)⟩
 ·rw [if_neg c3] at H
  have c3b0 : ((l0_0.length : Int) == (l1_0.length : Int)) = false := beq_eq_false_iff_ne.mpr c3
  have c3b1 : ((l0_0.length : Int) != (l1_0.length : Int)) = true := bne_iff_ne.mpr c3
  have c3b2 : (l0_0.length == l1_0.length) = false := by first | simpa using c3 | (simp at c3 ⊢; omega)
  obtain rfl := Option.some.inj H
  go_enter Tryd.func24, Tryd.ntmps24
  go_wp2_with (first | ((with_reducible refine zw (N := 2) rfl ?_); refine zq ?hg (N := 2) ?hd (cs := #[.slice A0_0 l0_0.length c0_0]) (t := 24) ?hr ?_; (case hd => rfl); (case hg => rfl); (case hr => first | (go_simp; done) | (go_simp; rfl)); intro gb317 hg w34 hbox hb; have n0_ := qb.mk (qu (by repeat (first | (with_reducible first | exact HB.out | apply qc | apply qa | apply qd) | exact HB.out)) hb); have n1_ := qb.mk (hbox); have n2_ := qb.mk ((by rw [hg]; exact (qm (by repeat (first | (with_reducible first | exact HB.out | apply qc | apply qa | apply qd) | exact HB.out))) : w.heap.size ≤ gb317)); have n3_ := qb.mk ((by rw [hg]; exact (qm (by repeat (first | (with_reducible first | exact HB.out | apply qc | apply qa | apply qd) | exact HB.out))) : w.heap.size ≤ gb317)); clear HB; have HB := n0_; have BK317 := n1_; have GW317 := n2_; have GE317 := n3_; clear n0_ n1_ n2_ n3_; clear hb hbox hg) | ((with_reducible refine zw (N := 3) rfl ?_); refine zq ?hg (N := 3) ?hd (cs := #[.slice A1_0 l1_0.length c1_0]) (t := 24) ?hr ?_; (case hd => rfl); (case hg => rfl); (case hr => first | (go_simp; done) | (go_simp; rfl)); intro gb318 hg w35 hbox hb; have n0_ := qb.mk (zd (g := gb317) (o := .cells #[.slice A0_0 l0_0.length c0_0] 24 (0, 0)) (by (with_reducible repeat (first | refine qe ?_ _ | refine qh ?_ | refine qf ?_ _)); exact BK317.out) hb); have n1_ := qb.mk (qu (by repeat (first | (with_reducible first | exact HB.out | apply qc | apply qa | apply qd | refine qg ?_ GE317.out) | exact HB.out)) hb); have n2_ := qb.mk (hbox); have n3_ := qb.mk ((by rw [hg]; exact (qm (by repeat (first | (with_reducible first | exact HB.out | apply qc | apply qa | apply qd | refine qg ?_ GE317.out) | exact HB.out))) : w.heap.size ≤ gb318)); have n4_ := qb.mk ((by rw [hg]; exact (qm (by repeat (first | (with_reducible first | exact HB.out | apply qc | apply qa | apply qd | refine qg ?_ GE317.out) | exact HB.out))) : w.heap.size ≤ gb318)); have n5_ := qb.mk ((by rw [hg]; exact Nat.ne_of_lt (z7 (g := gb317) (o := .cells #[.slice A0_0 l0_0.length c0_0] 24 (0, 0)) (by (with_reducible repeat (first | refine qe ?_ _ | refine qh ?_ | refine qf ?_ _)); exact BK317.out)) : gb317 ≠ gb318)); have n6_ := qb.mk ((by rw [hg]; exact Nat.ne_of_gt (z7 (g := gb317) (o := .cells #[.slice A0_0 l0_0.length c0_0] 24 (0, 0)) (by (with_reducible repeat (first | refine qe ?_ _ | refine qh ?_ | refine qf ?_ _)); exact BK317.out)) : gb318 ≠ gb317)); clear BK317; clear HB; have BK317 := n0_; have HB := n1_; have BK318 := n2_; have GW318 := n3_; have GE318 := n4_; have NB317_318 := n5_; have NB318_317 := n6_; clear n0_ n1_ n2_ n3_ n4_ n5_ n6_; clear hb hbox hg; have hnb36 := NB317_318.out; have hnc36 := NB318_317.out; have hcz37_0 : w35.cell? ⟨gb317, 0, none⟩ = some (.slice A0_0 l0_0.length c0_0) := (qq BK317.out 0).trans rfl; have hfz37_0 := ql BK317.out 0; have hcz38_0 : w35.cell? ⟨gb318, 0, none⟩ = some (.slice A1_0 l1_0.length c1_0) := (qq BK318.out 0).trans rfl; have hfz38_0 := ql BK318.out 0))
  repeat (go_quiet (first | ((with_reducible refine zw (N := 2) rfl ?_); refine zq ?hg (N := 2) ?hd (cs := #[.slice A0_0 l0_0.length c0_0]) (t := 24) ?hr ?_; (case hd => rfl); (case hg => rfl); (case hr => first | (go_simp; done) | (go_simp; rfl)); intro gb317 hg w34 hbox hb; have n0_ := qb.mk (qu (by repeat (first | (with_reducible first | exact HB.out | apply qc | apply qa | apply qd) | exact HB.out)) hb); have n1_ := qb.mk (hbox); have n2_ := qb.mk ((by rw [hg]; exact (qm (by repeat (first | (with_reducible first | exact HB.out | apply qc | apply qa | apply qd) | exact HB.out))) : w.heap.size ≤ gb317)); have n3_ := qb.mk ((by rw [hg]; exact (qm (by repeat (first | (with_reducible first | exact HB.out | apply qc | apply qa | apply qd) | exact HB.out))) : w.heap.size ≤ gb317)); clear HB; have HB := n0_; have BK317 := n1_; have GW317 := n2_; have GE317 := n3_; clear n0_ n1_ n2_ n3_; clear hb hbox hg) | ((with_reducible refine zw (N := 3) rfl ?_); refine zq ?hg (N := 3) ?hd (cs := #[.slice A1_0 l1_0.length c1_0]) (t := 24) ?hr ?_; (case hd => rfl); (case hg => rfl); (case hr => first | (go_simp; done) | (go_simp; rfl)); intro gb318 hg w35 hbox hb; have n0_ := qb.mk (zd (g := gb317) (o := .cells #[.slice A0_0 l0_0.length c0_0] 24 (0, 0)) (by (with_reducible repeat (first | refine qe ?_ _ | refine qh ?_ | refine qf ?_ _)); exact BK317.out) hb); have n1_ := qb.mk (qu (by repeat (first | (with_reducible first | exact HB.out | apply qc | apply qa | apply qd | refine qg ?_ GE317.out) | exact HB.out)) hb); have n2_ := qb.mk (hbox); have n3_ := qb.mk ((by rw [hg]; exact (qm (by repeat (first | (with_reducible first | exact HB.out | apply qc | apply qa | apply qd | refine qg ?_ GE317.out) | exact HB.out))) : w.heap.size ≤ gb318)); have n4_ := qb.mk ((by rw [hg]; exact (qm (by repeat (first | (with_reducible first | exact HB.out | apply qc | apply qa | apply qd | refine qg ?_ GE317.out) | exact HB.out))) : w.heap.size ≤ gb318)); have n5_ := qb.mk ((by rw [hg]; exact Nat.ne_of_lt (z7 (g := gb317) (o := .cells #[.slice A0_0 l0_0.length c0_0] 24 (0, 0)) (by (with_reducible repeat (first | refine qe ?_ _ | refine qh ?_ | refine qf ?_ _)); exact BK317.out)) : gb317 ≠ gb318)); have n6_ := qb.mk ((by rw [hg]; exact Nat.ne_of_gt (z7 (g := gb317) (o := .cells #[.slice A0_0 l0_0.length c0_0] 24 (0, 0)) (by (with_reducible repeat (first | refine qe ?_ _ | refine qh ?_ | refine qf ?_ _)); exact BK317.out)) : gb318 ≠ gb317)); clear BK317; clear HB; have BK317 := n0_; have HB := n1_; have BK318 := n2_; have GW318 := n3_; have GE318 := n4_; have NB317_318 := n5_; have NB318_317 := n6_; clear n0_ n1_ n2_ n3_ n4_ n5_ n6_; clear hb hbox hg; have hnb36 := NB317_318.out; have hnc36 := NB318_317.out; have hcz37_0 : w35.cell? ⟨gb317, 0, none⟩ = some (.slice A0_0 l0_0.length c0_0) := (qq BK317.out 0).trans rfl; have hfz37_0 := ql BK317.out 0; have hcz38_0 : w35.cell? ⟨gb318, 0, none⟩ = some (.slice A1_0 l1_0.length c1_0) := (qq BK318.out 0).trans rfl; have hfz38_0 := ql BK318.out 0)); try go_wp2_with (first | ((with_reducible refine zw (N := 2) rfl ?_); refine zq ?hg (N := 2) ?hd (cs := #[.slice A0_0 l0_0.length c0_0]) (t := 24) ?hr ?_; (case hd => rfl); (case hg => rfl); (case hr => first | (go_simp; done) | (go_simp; rfl)); intro gb317 hg w34 hbox hb; have n0_ := qb.mk (qu (by repeat (first | (with_reducible first | exact HB.out | apply qc | apply qa | apply qd) | exact HB.out)) hb); have n1_ := qb.mk (hbox); have n2_ := qb.mk ((by rw [hg]; exact (qm (by repeat (first | (with_reducible first | exact HB.out | apply qc | apply qa | apply qd) | exact HB.out))) : w.heap.size ≤ gb317)); have n3_ := qb.mk ((by rw [hg]; exact (qm (by repeat (first | (with_reducible first | exact HB.out | apply qc | apply qa | apply qd) | exact HB.out))) : w.heap.size ≤ gb317)); clear HB; have HB := n0_; have BK317 := n1_; have GW317 := n2_; have GE317 := n3_; clear n0_ n1_ n2_ n3_; clear hb hbox hg) | ((with_reducible refine zw (N := 3) rfl ?_); refine zq ?hg (N := 3) ?hd (cs := #[.slice A1_0 l1_0.length c1_0]) (t := 24) ?hr ?_; (case hd => rfl); (case hg => rfl); (case hr => first | (go_simp; done) | (go_simp; rfl)); intro gb318 hg w35 hbox hb; have n0_ := qb.mk (zd (g := gb317) (o := .cells #[.slice A0_0 l0_0.length c0_0] 24 (0, 0)) (by (with_reducible repeat (first | refine qe ?_ _ | refine qh ?_ | refine qf ?_ _)); exact BK317.out) hb); have n1_ := qb.mk (qu (by repeat (first | (with_reducible first | exact HB.out | apply qc | apply qa | apply qd | refine qg ?_ GE317.out) | exact HB.out)) hb); have n2_ := qb.mk (hbox); have n3_ := qb.mk ((by rw [hg]; exact (qm (by repeat (first | (with_reducible first | exact HB.out | apply qc | apply qa | apply qd | refine qg ?_ GE317.out) | exact HB.out))) : w.heap.size ≤ gb318)); have n4_ := qb.mk ((by rw [hg]; exact (qm (by repeat (first | (with_reducible first | exact HB.out | apply qc | apply qa | apply qd | refine qg ?_ GE317.out) | exact HB.out))) : w.heap.size ≤ gb318)); have n5_ := qb.mk ((by rw [hg]; exact Nat.ne_of_lt (z7 (g := gb317) (o := .cells #[.slice A0_0 l0_0.length c0_0] 24 (0, 0)) (by (with_reducible repeat (first | refine qe ?_ _ | refine qh ?_ | refine qf ?_ _)); exact BK317.out)) : gb317 ≠ gb318)); have n6_ := qb.mk ((by rw [hg]; exact Nat.ne_of_gt (z7 (g := gb317) (o := .cells #[.slice A0_0 l0_0.length c0_0] 24 (0, 0)) (by (with_reducible repeat (first | refine qe ?_ _ | refine qh ?_ | refine qf ?_ _)); exact BK317.out)) : gb318 ≠ gb317)); clear BK317; clear HB; have BK317 := n0_; have HB := n1_; have BK318 := n2_; have GW318 := n3_; have GE318 := n4_; have NB317_318 := n5_; have NB318_317 := n6_; clear n0_ n1_ n2_ n3_ n4_ n5_ n6_; clear hb hbox hg; have hnb36 := NB317_318.out; have hnc36 := NB318_317.out; have hcz37_0 : w35.cell? ⟨gb317, 0, none⟩ = some (.slice A0_0 l0_0.length c0_0) := (qq BK317.out 0).trans rfl; have hfz37_0 := ql BK317.out 0; have hcz38_0 : w35.cell? ⟨gb318, 0, none⟩ = some (.slice A1_0 l1_0.length c1_0) := (qq BK318.out 0).trans rfl; have hfz38_0 := ql BK318.out 0)))
  go_ret
  exact ⟨by first | rfl | (simp [qy, qx] <;> rfl) | (simp [*, qy, qx] <;> rfl), by repeat (first | (with_reducible first | exact HB.out | apply qc | apply qa | apply qd | refine qg ?_ GE317.out | refine qg ?_ GE318.out) | exact HB.out)⟩
end Go.Proofs.YtaonlbjdhilioaaDoor.C
end
