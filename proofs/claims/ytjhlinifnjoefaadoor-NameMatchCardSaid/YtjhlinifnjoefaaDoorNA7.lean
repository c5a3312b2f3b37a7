/- Words, walks and plain laws that the claim rests on, gathered. -/
import Derived.Below
import Derived.Deep.Draws
import Derived.Deep.AppendLies
import Derived.Maps.AppendAt
import Derived.OwnWalk
import Derived.Laws.BytesArg
import Derived.Laws.MakeOwn
import Derived.Laws.OwnMore
import Derived.Deep.OwnRows
import Derived.Tactics
import Derived.Lib.ConvBytes
import Derived.Laws.Slices
import Derived.WalkKit
import Derived.KernelRfl
import Derived.RowKit3
import Derived.Deep.LoopGhost
import Derived.Deep.QuietTactic
import Derived.BigQuiet
import Derived.WideLaws
import Derived.Deep.DeepCutAuto
import Derived.Deep.CutBlock
import Derived.Deep.RegionHeld3
import Derived.Laws.Rows
import Derived.Lib.AppendStr
import Derived.ArgAppend
import Derived.Laws.IdiomCopy
import Derived.RowKit
import Derived.OrdersHeld
import Derived.Laws.BitsLemmas
import Derived.Laws.StructEq
import Derived.Test.YtjhlinifnjoefaaDoorProg
import Derived.WalkSpells
import Derived.Shelf.Small.Strs
import Derived.Shelf.Strings.Search1
import Derived.Shelf.Strings.Search2
import Derived.Shelf.Strings.Search3
import Derived.Shelf.Strings.Cut
import Derived.Shelf.Strings.Count
import Derived.Shelf.LaysM
import Derived.Shelf.Strings.Shaped
import Derived.Shelf.Strings.Prefix
import Derived.Shelf.Strings.Split
import Derived.Shelf.Strings.SplitShaped
import Derived.Shelf.Unicode.DecodeSlow
import Derived.Test.YtjhlinifnjoefaaDoorNA0
import Derived.Test.YtjhlinifnjoefaaDoorNA1
import Derived.Test.YtjhlinifnjoefaaDoorNA2
import Derived.Test.YtjhlinifnjoefaaDoorNA3
import Derived.Test.YtjhlinifnjoefaaDoorNA4
import Derived.Test.YtjhlinifnjoefaaDoorNA5
import Derived.Test.YtjhlinifnjoefaaDoorNA6
namespace Go.Proofs.YtjhlinifnjoefaaDoorW.PrintLast
end Go.Proofs.YtjhlinifnjoefaaDoorW.PrintLast
namespace Go.Proofs.YtjhlinifnjoefaaDoorW.PrintMore
end Go.Proofs.YtjhlinifnjoefaaDoorW.PrintMore
namespace Go.Proofs.YtjhlinifnjoefaaDoorW.PrintWords
end Go.Proofs.YtjhlinifnjoefaaDoorW.PrintWords
section
namespace Go.Proofs.YtjhlinifnjoefaaDoor.C
open Go.RowKit Go.Proofs.YtjhlinifnjoefaaDoorW.PrintWords Go.Proofs.YtjhlinifnjoefaaDoorW.PrintLast Go.Proofs.YtjhlinifnjoefaaDoorW.PrintMore
attribute [local go_sem] xr xp xw xx xf xe xq xo
set_option linter.unusedVariables false
set_option linter.unusedSimpArgs false
mutual
def q8.l0 : Nat → List ByteArray → Int → Int → List (List (S26)) → Option ((List (List (S26))) × Int)
 | 0, _, _, _, _ => none
 | k + 1, x17, x18, x19, x199000 => if x19 < x18 then (if 0 ≤ x19 then (if x19 < (x17.length : Int) then ((strings_Split.f (rdOf ByteArray.empty x17 x19) (⟨#[43]⟩ : ByteArray)).bind fun t203 => (q8.l1 k ([] : List (S26)) x17 x18 x19 t203 (t203.length : Int) 0 x199000)) else (none)) else (none)) else ((zz.f k x199000).bind fun t218 => (if t218 = 0 then (some (x199000, 0)) else (some (([] : List (List (S26))), t218))))
def q8.l1 : Nat → List (S26) → List ByteArray → Int → Int → List ByteArray → Int → Int → List (List (S26)) → Option ((List (List (S26))) × Int)
 | 0, _, _, _, _, _, _, _, _ => none
 | k + 1, x7, x17, x18, x19, x24, x25, x26, x199000 => if x26 < x25 then (if 0 ≤ x26 then (if x26 < (x24.length : Int) then ((ql.f k (rdOf ByteArray.empty x24 x26)).bind fun bt210 => (if bt210.2.2.2 = true then (if x7.length < 3518437208883 then (q8.l1 k (x7 ++ [(⟨bt210.1, bt210.2.1, bt210.2.2.1⟩ : S26)]) x17 x18 x19 x24 x25 (wrap64 (x26 + 1)) x199000) else (none)) else (some (([] : List (List (S26))), 32)))) else (none)) else (none)) else (if x199000.length < 5864062014805 then (q8.l0 k x17 x18 (wrap64 (x19 + 1)) (x199000 ++ [x7])) else (none))
end
def q8.f (k : Nat) (a0 : ByteArray) : Option ((List (List (S26))) × Int) := if a0.toList = ([] : List UInt8) then (some (([] : List (List (S26))), 0)) else ((strings_Split.f a0 (⟨#[44]⟩ : ByteArray)).bind fun t199 => (q8.l0 k t199 (t199.length : Int) 0 ([] : List (List (S26)))))
theorem q8.xu : ∀ k, (∀ y0 y1 y2 y3, LeO (q8.l0 k y0 y1 y2 y3) (q8.l0 (k + 1) y0 y1 y2 y3)) ∧ (∀ y0 y1 y2 y3 y4 y5 y6 y7, LeO (q8.l1 k y0 y1 y2 y3 y4 y5 y6 y7) (q8.l1 (k + 1) y0 y1 y2 y3 y4 y5 y6 y7))
 | 0 => ⟨fun _ _ _ _ r h => by simp [q8.l0] at h, fun _ _ _ _ _ _ _ _ r h => by simp [q8.l1] at h⟩
 | k + 1 => by
  obtain ⟨ih0, ih1⟩ := q8.xu k
  refine ⟨?_, ?_⟩
  ·intro y0 y1 y2 y3
   unfold q8.l0
   repeat' first
   | (with_reducible exact ih0 _ _ _ _)
   | (with_reducible exact ih1 _ _ _ _ _ _ _ _)
   | (with_reducible exact zz.mono _ _)
   | (with_reducible exact ql.mono _ _)
   | (with_reducible exact LeO.refl _)
   | (with_reducible exact LeO.none _)
   | (with_reducible refine LeO.ite ?_ ?_)
   | (with_reducible refine LeO.bind ?_ (fun _ => ?_))
  ·intro y0 y1 y2 y3 y4 y5 y6 y7
   unfold q8.l1
   repeat' first
   | (with_reducible exact ih0 _ _ _ _)
   | (with_reducible exact ih1 _ _ _ _ _ _ _ _)
   | (with_reducible exact zz.mono _ _)
   | (with_reducible exact ql.mono _ _)
   | (with_reducible exact LeO.refl _)
   | (with_reducible exact LeO.none _)
   | (with_reducible refine LeO.ite ?_ ?_)
   | (with_reducible refine LeO.bind ?_ (fun _ => ?_))
theorem q8.mono : ∀ a0 k, LeO (q8.f k a0) (q8.f (k + 1) a0) := by
 intro a0 k
 obtain ⟨ih0, ih1⟩ := q8.xu k
 unfold q8.f
 repeat' first
   | (with_reducible exact ih0 _ _ _ _)
   | (with_reducible exact ih1 _ _ _ _ _ _ _ _)
   | (with_reducible exact zz.mono _ _)
   | (with_reducible exact ql.mono _ _)
   | (with_reducible exact LeO.refl _)
   | (with_reducible exact LeO.none _)
   | (with_reducible refine LeO.ite ?_ ?_)
   | (with_reducible refine LeO.bind ?_ (fun _ => ?_))
set_option maxHeartbeats 8000000 in
set_option maxRecDepth 100000 in
theorem q8.calls (k : Nat) (a0 : ByteArray) (r1 : List (List (S26))) (r2 : Int) (w : World) (hG : LibHeld w) (h : q8.f k a0 = some (r1, r2)) :
  Calls Tryd.prog 21 #[.string a0] w fun e w' => ∃ v0_ : Value, e = .returned (.tuple #[.agg #[v0_], .int .i64 r2]) ∧ Kd.S (Kd.slice 26 k26) 27 w' w.heap.size (fun _ => True) v0_ r1 ∧ Below w.heap.size w w' := by
 have hu24 := Tryd.underlying24
 have hu26 := Tryd.underlying26
 have HG := qa.mk hG
 clear hG
 have HB := qa.mk (Below.refl w.heap.size w)
 have H : (if a0.toList = ([] : List UInt8) then (some (([] : List (List (S26))), 0)) else ((strings_Split.f a0 (⟨#[44]⟩ : ByteArray)).bind fun t199 => (q8.l0 k t199 (t199.length : Int) 0 ([] : List (List (S26)))))) = some (r1, r2) := h
 clear h
 by_cases c2 : a0.toList = ([] : List UInt8)
 ·rw [if_pos c2] at H
  have c2b0 : (a0.toList == ([] : List UInt8)) = true := beq_iff_eq.mpr c2
  have c2b1 : (a0.toList != ([] : List UInt8)) = false := bne_eq_false_iff_eq.mpr c2
  clear c2
  simp only [Option.some.injEq, Prod.mk.injEq] at H
  obtain ⟨rfl, rfl⟩ := H
  go_enter Tryd.func21, Tryd.ntmps21
  go_wp2_with (first | ((with_reducible refine zd (N := 2) rfl ?_); refine zg ?hg (N := 2) ?hd (cs := #[.slice none 0 0]) (t := 24) ?hr ?_; (case hd => rfl); (case hg => rfl); (case hr => first | (go_simp; done) | (go_simp; rfl)); intro gb197 hg w3 hbox hb; have n0_ := qa.mk (qj (by repeat (first | (with_reducible first | exact HB.out | apply qc | apply qb | apply qd) | exact HB.out)) hb); have n1_ := qa.mk (hbox); have n2_ := qa.mk ((by rw [hg]; exact (qm (by repeat (first | (with_reducible first | exact HB.out | apply qc | apply qb | apply qd) | exact HB.out))) : w.heap.size ≤ gb197)); have n3_ := qa.mk ((by rw [hg]; exact (qm (by repeat (first | (with_reducible first | exact HB.out | apply qc | apply qb | apply qd) | exact HB.out))) : w.heap.size ≤ gb197)); clear HB; have HB := n0_; have BK197 := n1_; have GW197 := n2_; have GE197 := n3_; clear n0_ n1_ n2_ n3_; clear hb hbox hg) | ((with_reducible refine zd (N := 4) rfl ?_); refine zg ?hg (N := 4) ?hd (cs := #[.slice none 0 0]) (t := 24) ?hr ?_; (case hd => rfl); (case hg => rfl); (case hr => first | (go_simp; done) | (go_simp; rfl)); intro gb198 hg w4 hbox hb; have n0_ := qa.mk (qt (g := gb197) (o := .cells #[.slice none 0 0] 24 (0, 0)) (by (with_reducible repeat (first | refine qg ?_ _ | refine qh ?_ | refine qf ?_ _)); exact BK197.out) hb); have n1_ := qa.mk (qj (by repeat (first | (with_reducible first | exact HB.out | apply qc | apply qb | apply qd | refine qe ?_ GE197.out) | exact HB.out)) hb); have n2_ := qa.mk (hbox); have n3_ := qa.mk ((by rw [hg]; exact (qm (by repeat (first | (with_reducible first | exact HB.out | apply qc | apply qb | apply qd | refine qe ?_ GE197.out) | exact HB.out))) : w.heap.size ≤ gb198)); have n4_ := qa.mk ((by rw [hg]; exact (qm (by repeat (first | (with_reducible first | exact HB.out | apply qc | apply qb | apply qd | refine qe ?_ GE197.out) | exact HB.out))) : w.heap.size ≤ gb198)); have n5_ := qa.mk ((by rw [hg]; exact Nat.ne_of_lt (zl (g := gb197) (o := .cells #[.slice none 0 0] 24 (0, 0)) (by (with_reducible repeat (first | refine qg ?_ _ | refine qh ?_ | refine qf ?_ _)); exact BK197.out)) : gb197 ≠ gb198)); have n6_ := qa.mk ((by rw [hg]; exact Nat.ne_of_gt (zl (g := gb197) (o := .cells #[.slice none 0 0] 24 (0, 0)) (by (with_reducible repeat (first | refine qg ?_ _ | refine qh ?_ | refine qf ?_ _)); exact BK197.out)) : gb198 ≠ gb197)); clear BK197; clear HB; have BK197 := n0_; have HB := n1_; have BK198 := n2_; have GW198 := n3_; have GE198 := n4_; have NB197_198 := n5_; have NB198_197 := n6_; clear n0_ n1_ n2_ n3_ n4_ n5_ n6_; clear hb hbox hg; have hnb5 := NB198_197.out; have hnc5 := NB197_198.out; have hcz6_0 : w4.cell? ⟨gb198, 0, none⟩ = some (.slice none 0 0) := (qi BK198.out 0).trans rfl; have hfz6_0 := qk BK198.out 0; have hcz7_0 : w4.cell? ⟨gb197, 0, none⟩ = some (.slice none 0 0) := (qi BK197.out 0).trans rfl; have hfz7_0 := qk BK197.out 0))
  refine bodyPost_ret (jb rfl _ _ gb197 24 #[.slice none 0 0] (0, 0) _ rfl (by (with_reducible repeat (first | refine qg ?_ _ | refine qh ?_ | refine qf ?_ _)); refine zw (cs := #[.slice none 0 0]) ?_ 0 _ rfl; (with_reducible repeat (first | refine qg ?_ _ | refine qh ?_ | refine qf ?_ _)); exact BK197.out) Tryd.underlying24 rfl (by kernel_rfl)) rfl ?_
  exact ⟨_, by first | rfl | (simp [qq, qp] <;> rfl) | (simp [*, qq, qp] <;> rfl), by first | exact Kd.S_nil _ _ _ _ _ | exact Kd.N_nil _ _ _ _ _ | exact Kd.V_nil _ _ _ _ _ | exact Kd.Q_nil _ _ _ _ _ | exact Kd.R_nil _ _ _ _ _, by repeat (first | (with_reducible first | exact HB.out | apply qc | apply qb | apply qd | refine qe ?_ GE197.out | refine qe ?_ GE198.out) | exact HB.out)⟩
 ·rw [if_neg c2] at H
  have c2b0 : (a0.toList == ([] : List UInt8)) = false := beq_eq_false_iff_ne.mpr c2
  have c2b1 : (a0.toList != ([] : List UInt8)) = true := bne_iff_ne.mpr c2
  replace H := Option.bind_eq_some_iff.mp H
  obtain ⟨t199, A80, H⟩ := H
  replace H : (q8.l0 k t199 (t199.length : Int) 0 ([] : List (List (S26)))) = some (r1, r2) := H
  have A8 := qa.mk A80
  clear A80
  have H' := qa.mk H
  clear H
  go_enter Tryd.func21, Tryd.ntmps21
  go_wp2_with (first | ((with_reducible refine zd (N := 2) rfl ?_); refine zg ?hg (N := 2) ?hd (cs := #[.slice none 0 0]) (t := 24) ?hr ?_; (case hd => rfl); (case hg => rfl); (case hr => first | (go_simp; done) | (go_simp; rfl)); intro gb197 hg w9 hbox hb; have n0_ := qa.mk (qj (by repeat (first | (with_reducible first | exact HB.out | apply qc | apply qb | apply qd) | exact HB.out)) hb); have n1_ := qa.mk (hbox); have n2_ := qa.mk ((by rw [hg]; exact (qm (by repeat (first | (with_reducible first | exact HB.out | apply qc | apply qb | apply qd) | exact HB.out))) : w.heap.size ≤ gb197)); have n3_ := qa.mk ((by rw [hg]; exact (qm (by repeat (first | (with_reducible first | exact HB.out | apply qc | apply qb | apply qd) | exact HB.out))) : w.heap.size ≤ gb197)); clear HB; have HB := n0_; have BK197 := n1_; have GW197 := n2_; have GE197 := n3_; clear n0_ n1_ n2_ n3_; clear hb hbox hg) | ((with_reducible refine zd (N := 4) rfl ?_); refine zg ?hg (N := 4) ?hd (cs := #[.slice none 0 0]) (t := 24) ?hr ?_; (case hd => rfl); (case hg => rfl); (case hr => first | (go_simp; done) | (go_simp; rfl)); intro gb198 hg w10 hbox hb; have n0_ := qa.mk (qt (g := gb197) (o := .cells #[.slice none 0 0] 24 (0, 0)) (by (with_reducible repeat (first | refine qg ?_ _ | refine qh ?_ | refine qf ?_ _)); exact BK197.out) hb); have n1_ := qa.mk (qj (by repeat (first | (with_reducible first | exact HB.out | apply qc | apply qb | apply qd | refine qe ?_ GE197.out) | exact HB.out)) hb); have n2_ := qa.mk (hbox); have n3_ := qa.mk ((by rw [hg]; exact (qm (by repeat (first | (with_reducible first | exact HB.out | apply qc | apply qb | apply qd | refine qe ?_ GE197.out) | exact HB.out))) : w.heap.size ≤ gb198)); have n4_ := qa.mk ((by rw [hg]; exact (qm (by repeat (first | (with_reducible first | exact HB.out | apply qc | apply qb | apply qd | refine qe ?_ GE197.out) | exact HB.out))) : w.heap.size ≤ gb198)); have n5_ := qa.mk ((by rw [hg]; exact Nat.ne_of_lt (zl (g := gb197) (o := .cells #[.slice none 0 0] 24 (0, 0)) (by (with_reducible repeat (first | refine qg ?_ _ | refine qh ?_ | refine qf ?_ _)); exact BK197.out)) : gb197 ≠ gb198)); have n6_ := qa.mk ((by rw [hg]; exact Nat.ne_of_gt (zl (g := gb197) (o := .cells #[.slice none 0 0] 24 (0, 0)) (by (with_reducible repeat (first | refine qg ?_ _ | refine qh ?_ | refine qf ?_ _)); exact BK197.out)) : gb198 ≠ gb197)); clear BK197; clear HB; have BK197 := n0_; have HB := n1_; have BK198 := n2_; have GW198 := n3_; have GE198 := n4_; have NB197_198 := n5_; have NB198_197 := n6_; clear n0_ n1_ n2_ n3_ n4_ n5_ n6_; clear hb hbox hg) | ((with_reducible refine zk (f := 30) rfl ?_); refine xv (some 17) rfl rfl Tryd.func30 (by kernel_rfl) rfl #[.string a0, .string (⟨#[44]⟩ : ByteArray)] rfl (by (try simp only [List.map_toArray, List.map_cons, List.map_nil]); first | done | rfl | (simp only [List.length_drop, List.length_take]; rfl)) ?_; (with_reducible refine (strings_Split.calls a0 (⟨#[44]⟩ : ByteArray) t199 _ ?side1 A8.out).mono ?_); (case side1 => exact LibHeld.below HG.out (by repeat (first | (with_reducible first | exact HB.out | apply qc | apply qb | apply qd | refine qe ?_ GE197.out | refine qe ?_ GE198.out) | exact HB.out))); rintro e w11 ⟨v200, rfl, ho0, hb⟩; refine ⟨_, rfl, ?_⟩; have n0_ := qa.mk (Kd.R_lower ho0 (qm (by repeat (first | (with_reducible first | exact HB.out | apply qc | apply qb | apply qd | refine qe ?_ GE197.out | refine qe ?_ GE198.out) | exact HB.out)))); have n1_ := qa.mk (qt (g := gb197) (o := .cells #[.slice none 0 0] 24 (0, 0)) (by (with_reducible repeat (first | refine qg ?_ _ | refine qh ?_ | refine qf ?_ _)); exact BK197.out) hb); have n2_ := qa.mk (qt (g := gb198) (o := .cells #[.slice none 0 0] 24 (0, 0)) (by (with_reducible repeat (first | refine qg ?_ _ | refine qh ?_ | refine qf ?_ _)); exact BK198.out) hb); have n3_ := qa.mk (qj (by repeat (first | (with_reducible first | exact HB.out | apply qc | apply qb | apply qd | refine qe ?_ GE197.out | refine qe ?_ GE198.out) | exact HB.out)) hb); clear BK197; clear BK198; clear HB; have HO201 := n0_; have BK197 := n1_; have BK198 := n2_; have HB := n3_; clear n0_ n1_ n2_ n3_; (try clear hb); (try clear hb2); (try clear hk); (try clear hi); (try clear ho0); obtain ⟨Ao12, co12, eo12⟩ := Kd.ko HO201.out; subst eo12))
  go_loopg [19] k (fun kq v19 w' => ∃ (x19_1 : Int) (x199000_1 : List (List (S26))) (u199000 : Value), v19 = .int .i64 x19_1 ∧ qa (q8.l0 kq t199 (t199.length : Int) x19_1 x199000_1 = some (r1, r2)) ∧ qa (kq ≤ k) ∧ qa (Kd.R Kd.string 9 w' w.heap.size (fun _ => True) (.slice Ao12 t199.length co12) t199) ∧ qa (Kd.S (Kd.slice 26 k26) 27 w' w.heap.size (fun _ => True) u199000 x199000_1) ∧ qa (w'.heap[gb197]? = some (.cells #[(.slice none 0 0)] 24 (0, 0))) ∧ qa (w'.heap[gb198]? = some (.cells #[u199000] 24 (0, 0))) ∧ qa (Below w.heap.size w w'))
  case atStart => exact ⟨(0), (([] : List (List (S26)))), (.slice none 0 0), (by first | rfl | (simp; done) | (simp [*]; done)), H', ⟨Nat.le_refl _⟩, ⟨by (with_reducible repeat (first | apply Kd.zi | apply Kd.ze | apply Kd.zv)); exact HO201.out⟩, ⟨by first | exact Kd.S_nil _ _ _ _ _ | exact Kd.N_nil _ _ _ _ _ | exact Kd.V_nil _ _ _ _ _ | exact Kd.Q_nil _ _ _ _ _ | exact Kd.R_nil _ _ _ _ _⟩, ⟨by (with_reducible repeat (first | refine qg ?_ _ | refine qh ?_ | refine qf ?_ _)); exact BK197.out⟩, ⟨by (with_reducible repeat (first | refine qg ?_ _ | refine qh ?_ | refine qf ?_ _)); exact BK198.out⟩, ⟨by repeat (first | (with_reducible first | exact HB.out | apply qc | apply qb | apply qd | refine qe ?_ GE197.out | refine qe ?_ GE198.out) | exact HB.out)⟩⟩
  case round =>
   clear H'
   (try clear c2); (try clear c2b0); (try clear c2b1); (try clear p2); (try clear c3); (try clear c5); (try clear hcz6_0); (try clear hcz7_0); (try clear hfz6_0); try clear hfz7_0
   obtain ⟨x19_1, x199000_1, u199000, rfl, HA, HK1, HO_17, HO_199000, BK197, BK198, HB⟩ := hrel
   cases gk with
   | zero => exact absurd HA.out (by simp [q8.l0])
   | succ k1 =>
    have H := HA.out
    clear HA
    simp only [q8.l0] at H
    by_cases c13 : x19_1 < (t199.length : Int)
    ·rw [if_pos c13] at H
     have c13b0 : decide (x19_1 < (t199.length : Int)) = true := decide_eq_true c13
     clear c13
     by_cases c14 : 0 ≤ x19_1
     ·rw [if_pos c14] at H
      have c14b0 : decide (0 ≤ x19_1) = true := decide_eq_true c14
      clear c14
      by_cases c15 : x19_1 < (t199.length : Int)
      ·rw [if_pos c15] at H
       have c15b0 : decide (x19_1 < (t199.length : Int)) = true := decide_eq_true c15
       clear c15
       replace H := Option.bind_eq_some_iff.mp H
       obtain ⟨t203, A160, H⟩ := H
       replace H : (q8.l1 k1 ([] : List (S26)) t199 (t199.length : Int) x19_1 t203 (t203.length : Int) 0 x199000_1) = some (r1, r2) := H
       have A16 := qa.mk A160
       clear A160
       have H' := qa.mk H
       clear H
       have p202 : 0 ≤ (x19_1 : Int) := of_decide_eq_true (by first | (with_reducible assumption) | assumption)
       have q202 : x19_1 < (t199.length : Int) := of_decide_eq_true (by first | (with_reducible assumption) | assumption)
       obtain ⟨ad202, e202, hx202_0⟩ := Kd.at_string (Kd.kg HO_17.out).2.2 x19_1 p202 q202
       cases e202
       replace p202 := eq_true p202
       replace q202 := eq_true q202
       go_wp2_with (first | ((with_reducible refine zk (f := 30) rfl ?_); refine xv (some 24) rfl rfl Tryd.func30 (by kernel_rfl) rfl #[.string (rdOf ByteArray.empty t199 x19_1), .string (⟨#[43]⟩ : ByteArray)] rfl (by (try simp only [List.map_toArray, List.map_cons, List.map_nil]); first | done | rfl | (simp only [List.length_drop, List.length_take]; rfl)) ?_; (with_reducible refine (strings_Split.calls (rdOf ByteArray.empty t199 x19_1) (⟨#[43]⟩ : ByteArray) t203 _ ?side1 A16.out).mono ?_); (case side1 => exact LibHeld.below HG.out (by repeat (first | (with_reducible first | exact HB.out | apply qc | apply qb | apply qd | refine qe ?_ GE197.out | refine qe ?_ GE198.out) | exact HB.out))); rintro e w17 ⟨v204, rfl, ho0, hb⟩; refine ⟨_, rfl, ?_⟩; have n0_ := qa.mk (Kd.R_elder' (by (with_reducible repeat (first | apply Kd.zi | apply Kd.ze | apply Kd.zv)); exact HO_17.out) (Kd.R_base ho0) hb); have n1_ := qa.mk (Kd.xz (by (with_reducible repeat (first | apply Kd.z8 | apply Kd.z7 | apply Kd.xn)); exact HO_199000.out) hb); have n2_ := qa.mk (Kd.R_lower (Kd.R_new' ho0 (Kd.R_lt (by (with_reducible repeat (first | apply Kd.zi | apply Kd.ze | apply Kd.zv)); exact HO_17.out))) (qm (by repeat (first | (with_reducible first | exact HB.out | apply qc | apply qb | apply qd | refine qe ?_ GE197.out | refine qe ?_ GE198.out) | exact HB.out)))); have n3_ := qa.mk (qt (g := gb197) (o := .cells #[.slice none 0 0] 24 (0, 0)) (by (with_reducible repeat (first | refine qg ?_ _ | refine qh ?_ | refine qf ?_ _)); exact BK197.out) hb); have n4_ := qa.mk (qt (g := gb198) (o := .cells #[u199000] 24 (0, 0)) (by (with_reducible repeat (first | refine qg ?_ _ | refine qh ?_ | refine qf ?_ _)); exact BK198.out) hb); have n5_ := qa.mk (qj (by repeat (first | (with_reducible first | exact HB.out | apply qc | apply qb | apply qd | refine qe ?_ GE197.out | refine qe ?_ GE198.out) | exact HB.out)) hb); clear HO_17; clear HO_199000; clear BK197; clear BK198; clear HB; have HO_17 := n0_; have HO_199000 := n1_; have HO205 := n2_; have BK197 := n3_; have BK198 := n4_; have HB := n5_; clear n0_ n1_ n2_ n3_ n4_ n5_; (try clear hb); (try clear hb2); (try clear hk); (try clear hi); (try clear ho0); obtain ⟨Ao18, co18, eo18⟩ := Kd.ko HO205.out; subst eo18))
       go_loopg [7, 26] k1 (fun kq v7 v26 w' => ∃ (x7_2 : List (S26)) (x26_2 : Int), v26 = .int .i64 x26_2 ∧ qa (q8.l1 kq x7_2 t199 (t199.length : Int) x19_1 t203 (t203.length : Int) x26_2 x199000_1 = some (r1, r2)) ∧ qa (kq ≤ k1) ∧ qa (Kd.R k26 26 w' w.heap.size (fun _ => True) v7 x7_2) ∧ qa (Kd.R Kd.string 9 w' w.heap.size (fun k_ => some k_ ≠ ((.slice Ao18 t203.length co18) : Value).ownBlock) (.slice (some ad202) t199.length co12) t199) ∧ qa (Kd.R Kd.string 9 w' w.heap.size (fun k_ => some k_ ≠ ((.slice (some ad202) t199.length co12) : Value).ownBlock) (.slice Ao18 t203.length co18) t203) ∧ qa (Kd.S (Kd.slice 26 k26) 27 w' w.heap.size (fun k_ => some k_ ≠ (v7 : Value).ownBlock) u199000 x199000_1) ∧ qa (w'.heap[gb197]? = some (.cells #[(.slice none 0 0)] 24 (0, 0))) ∧ qa (w'.heap[gb198]? = some (.cells #[u199000] 24 (0, 0))) ∧ qa (Below w.heap.size w w'))
       case atStart => exact ⟨(([] : List (S26))), (0), (by first | rfl | (simp; done) | (simp [*]; done)), H', ⟨Nat.le_refl _⟩, ⟨by first | exact Kd.R_nil _ _ _ _ _ | exact Kd.N_nil _ _ _ _ _ | exact Kd.V_nil _ _ _ _ _ | exact Kd.Q_nil _ _ _ _ _ | exact Kd.S_nil _ _ _ _ _⟩, ⟨by (with_reducible repeat (first | apply Kd.zi | apply Kd.ze | apply Kd.zv)); exact Kd.x2 HO_17.out (fun _ hk => hk.2)⟩, ⟨by (with_reducible repeat (first | apply Kd.zi | apply Kd.ze | apply Kd.zv)); exact Kd.x2 HO205.out (fun _ hk => hk.2)⟩, ⟨by (with_reducible repeat (first | apply Kd.z8 | apply Kd.z7 | apply Kd.xn)); exact Kd.kd HO_199000.out (fun _ hk => (by simp [Value.ownBlock]))⟩, ⟨by (with_reducible repeat (first | refine qg ?_ _ | refine qh ?_ | refine qf ?_ _)); exact BK197.out⟩, ⟨by (with_reducible repeat (first | refine qg ?_ _ | refine qh ?_ | refine qf ?_ _)); exact BK198.out⟩, ⟨by repeat (first | (with_reducible first | exact HB.out | apply qc | apply qb | apply qd | refine qe ?_ GE197.out | refine qe ?_ GE198.out) | exact HB.out)⟩⟩
       case round =>
        clear H'
        (try clear c1); (try clear c2); (try clear c2b0); (try clear c2b1); (try clear p2); (try clear q2); (try clear hx2); (try clear c3); (try clear c5); (try clear c13); (try clear c13b0); try clear c14
        (try clear c14b0); (try clear c15); (try clear c15b0); (try clear hcz6_0); (try clear hcz7_0); (try clear hfz6_0); (try clear hfz7_0); (try clear hx202_0); (try clear p2); try clear p202
        try clear q202
        obtain ⟨x7_2, x26_2, rfl, HA, HK2, HO_7, HO_17, HO_24, HO_199000, BK197, BK198, HB⟩ := hrel
        cases gk with
        | zero => exact absurd HA.out (by simp [q8.l1])
        | succ k2 =>
         have H := HA.out
         clear HA
         simp only [q8.l1] at H
         by_cases c19 : x26_2 < (t203.length : Int)
         ·rw [if_pos c19] at H
          have c19b0 : decide (x26_2 < (t203.length : Int)) = true := decide_eq_true c19
          clear c19
          by_cases c20 : 0 ≤ x26_2
          ·rw [if_pos c20] at H
           have c20b0 : decide (0 ≤ x26_2) = true := decide_eq_true c20
           clear c20
           by_cases c21 : x26_2 < (t203.length : Int)
           ·rw [if_pos c21] at H
            have c21b0 : decide (x26_2 < (t203.length : Int)) = true := decide_eq_true c21
            clear c21
            replace H := Option.bind_eq_some_iff.mp H
            obtain ⟨⟨t210, t211, t212, t213⟩, A220, H⟩ := H
            replace H : (if t213 = true then (if x7_2.length < 3518437208883 then (q8.l1 k2 (x7_2 ++ [(⟨t210, t211, t212⟩ : S26)]) t199 (t199.length : Int) x19_1 t203 (t203.length : Int) (wrap64 (x26_2 + 1)) x199000_1) else (none)) else (some (([] : List (List (S26))), 32))) = some (r1, r2) := H
            have A22 := qa.mk A220
            clear A220
            by_cases c23 : t213 = true
            ·subst c23
             have H1 : (if x7_2.length < 3518437208883 then (q8.l1 k2 (x7_2 ++ [(⟨t210, t211, t212⟩ : S26)]) t199 (t199.length : Int) x19_1 t203 (t203.length : Int) (wrap64 (x26_2 + 1)) x199000_1) else (none)) = some (r1, r2) := by rw [if_pos rfl] at H; exact H
             clear H
             have H := H1
             clear H1
             by_cases c24 : x7_2.length < 3518437208883
             ·rw [if_pos c24] at H
              have LMc24 := qa.mk c24
              clear c24
              obtain ⟨y215, hy215⟩ : ∃ y_ : List (S26), y_ = (x7_2 ++ [(⟨t210, t211, t212⟩ : S26)]) := ⟨_, rfl⟩
              replace H : (q8.l1 k2 y215 t199 (t199.length : Int) x19_1 t203 (t203.length : Int) (wrap64 (x26_2 + 1)) x199000_1) = some (r1, r2) := by first | (rw [hy215]; with_reducible exact H) | (have H2_ := (Option.bind_some _ _).symm.trans H; rw [hy215]; with_reducible exact H2_) | (have H2_ := (Option.bind_some _ _).symm.trans H; with_reducible exact H2_) | with_reducible exact H | (rw [hy215]; exact H) | exact H
              have Ny215 := qa.mk hy215
              clear hy215
              have H' := qa.mk H
              clear H
              have p209 : 0 ≤ (x26_2 : Int) := of_decide_eq_true (by first | (with_reducible assumption) | assumption)
              have q209 : x26_2 < (t203.length : Int) := of_decide_eq_true (by first | (with_reducible assumption) | assumption)
              obtain ⟨ad209, e209, hx209_0⟩ := Kd.at_string (Kd.kg HO_24.out).2.2 x26_2 p209 q209
              cases e209
              replace p209 := eq_true p209
              replace q209 := eq_true q209
              go_wp2_with (first | ((with_reducible refine zk (f := 31) rfl ?_); refine xv (some 32) rfl rfl Tryd.func31 (by kernel_rfl) rfl #[.string (rdOf ByteArray.empty t203 x26_2)] rfl (by (try simp only [List.map_toArray, List.map_cons, List.map_nil]); first | done | rfl | (simp only [List.length_drop, List.length_take]; rfl)) ?_; (with_reducible refine (ql.calls k2 (rdOf ByteArray.empty t203 x26_2) t210 t211 t212 true _ ?side1 A22.out).mono ?_); (case side1 => exact LibHeld.below HG.out (by repeat (first | (with_reducible first | exact HB.out | apply qc | apply qb | apply qd | refine qe ?_ GE197.out | refine qe ?_ GE198.out) | exact HB.out))); rintro e w25 ⟨rfl, hb⟩; refine ⟨_, rfl, ?_⟩; have n0_ := qa.mk (Kd.km (by (with_reducible repeat (first | apply Kd.zi | apply Kd.ze | apply Kd.zv)); exact HO_7.out) hb); have n1_ := qa.mk (Kd.km (by (with_reducible repeat (first | apply Kd.zi | apply Kd.ze | apply Kd.zv)); exact HO_17.out) hb); have n2_ := qa.mk (Kd.km (by (with_reducible repeat (first | apply Kd.zi | apply Kd.ze | apply Kd.zv)); exact HO_24.out) hb); have n3_ := qa.mk (Kd.xz (by (with_reducible repeat (first | apply Kd.z8 | apply Kd.z7 | apply Kd.xn)); exact HO_199000.out) hb); have n4_ := qa.mk (qt (g := gb197) (o := .cells #[.slice none 0 0] 24 (0, 0)) (by (with_reducible repeat (first | refine qg ?_ _ | refine qh ?_ | refine qf ?_ _)); exact BK197.out) hb); have n5_ := qa.mk (qt (g := gb198) (o := .cells #[u199000] 24 (0, 0)) (by (with_reducible repeat (first | refine qg ?_ _ | refine qh ?_ | refine qf ?_ _)); exact BK198.out) hb); have n6_ := qa.mk (qj (by repeat (first | (with_reducible first | exact HB.out | apply qc | apply qb | apply qd | refine qe ?_ GE197.out | refine qe ?_ GE198.out) | exact HB.out)) hb); clear HO_7; clear HO_17; clear HO_24; clear HO_199000; clear BK197; clear BK198; clear HB; have HO_7 := n0_; have HO_17 := n1_; have HO_24 := n2_; have HO_199000 := n3_; have BK197 := n4_; have BK198 := n5_; have HB := n6_; clear n0_ n1_ n2_ n3_ n4_ n5_ n6_; (try clear hb); (try clear hb2); (try clear hk); (try clear hi)) | ((with_reducible refine zd (N := 10) rfl ?_); refine zg ?hg (N := 10) ?hd (cs := #[.string (⟨#[]⟩ : ByteArray), .int .i64 0, .string (⟨#[]⟩ : ByteArray)]) (t := 26) ?hr ?_; (case hd => rfl); (case hg => rfl); (case hr => first | (go_simp; done) | (go_simp; rfl)); intro gb214 hg w26 hbox hb; have n0_ := qa.mk (Kd.km (Kd.R_elderB (by (with_reducible repeat (first | apply Kd.zi | apply Kd.ze | apply Kd.zv)); exact HO_7.out) gb214 (Nat.le_of_eq hg.symm)) hb); have n1_ := qa.mk (Kd.km (by (with_reducible repeat (first | apply Kd.zi | apply Kd.ze | apply Kd.zv)); exact HO_17.out) hb); have n2_ := qa.mk (Kd.km (by (with_reducible repeat (first | apply Kd.zi | apply Kd.ze | apply Kd.zv)); exact HO_24.out) hb); have n3_ := qa.mk (Kd.xz (Kd.S_elderB (by (with_reducible repeat (first | apply Kd.z8 | apply Kd.z7 | apply Kd.xn)); exact HO_199000.out) gb214 (Nat.le_of_eq hg.symm)) hb); have n4_ := qa.mk (qt (g := gb197) (o := .cells #[.slice none 0 0] 24 (0, 0)) (by (with_reducible repeat (first | refine qg ?_ _ | refine qh ?_ | refine qf ?_ _)); exact BK197.out) hb); have n5_ := qa.mk (qt (g := gb198) (o := .cells #[u199000] 24 (0, 0)) (by (with_reducible repeat (first | refine qg ?_ _ | refine qh ?_ | refine qf ?_ _)); exact BK198.out) hb); have n6_ := qa.mk (qj (by repeat (first | (with_reducible first | exact HB.out | apply qc | apply qb | apply qd | refine qe ?_ GE197.out | refine qe ?_ GE198.out) | exact HB.out)) hb); have n7_ := qa.mk (hbox); have n8_ := qa.mk ((by rw [hg]; exact (qm (by repeat (first | (with_reducible first | exact HB.out | apply qc | apply qb | apply qd | refine qe ?_ GE197.out | refine qe ?_ GE198.out) | exact HB.out))) : w.heap.size ≤ gb214)); have n9_ := qa.mk ((by rw [hg]; exact (qm (by repeat (first | (with_reducible first | exact HB.out | apply qc | apply qb | apply qd | refine qe ?_ GE197.out | refine qe ?_ GE198.out) | exact HB.out))) : w.heap.size ≤ gb214)); have n10_ := qa.mk ((by rw [hg]; exact Nat.ne_of_lt (zl (g := gb197) (o := .cells #[.slice none 0 0] 24 (0, 0)) (by (with_reducible repeat (first | refine qg ?_ _ | refine qh ?_ | refine qf ?_ _)); exact BK197.out)) : gb197 ≠ gb214)); have n11_ := qa.mk ((by rw [hg]; exact Nat.ne_of_gt (zl (g := gb197) (o := .cells #[.slice none 0 0] 24 (0, 0)) (by (with_reducible repeat (first | refine qg ?_ _ | refine qh ?_ | refine qf ?_ _)); exact BK197.out)) : gb214 ≠ gb197)); have n12_ := qa.mk ((by rw [hg]; exact Nat.ne_of_lt (zl (g := gb198) (o := .cells #[u199000] 24 (0, 0)) (by (with_reducible repeat (first | refine qg ?_ _ | refine qh ?_ | refine qf ?_ _)); exact BK198.out)) : gb198 ≠ gb214)); have n13_ := qa.mk ((by rw [hg]; exact Nat.ne_of_gt (zl (g := gb198) (o := .cells #[u199000] 24 (0, 0)) (by (with_reducible repeat (first | refine qg ?_ _ | refine qh ?_ | refine qf ?_ _)); exact BK198.out)) : gb214 ≠ gb198)); clear HO_7; clear HO_17; clear HO_24; clear HO_199000; clear BK197; clear BK198; clear HB; have HO_7 := n0_; have HO_17 := n1_; have HO_24 := n2_; have HO_199000 := n3_; have BK197 := n4_; have BK198 := n5_; have HB := n6_; have BK214 := n7_; have GW214 := n8_; have GE214 := n9_; have NB197_214 := n10_; have NB214_197 := n11_; have NB198_214 := n12_; have NB214_198 := n13_; clear n0_ n1_ n2_ n3_ n4_ n5_ n6_ n7_ n8_ n9_ n10_ n11_ n12_ n13_; clear hb hbox hg; have hnb27 := NB214_197.out; have hnc27 := NB197_214.out; have hnb28 := NB214_198.out; have hnc28 := NB198_214.out; have hcz29_0 : w26.cell? ⟨gb214, 0, none⟩ = some (.string (⟨#[]⟩ : ByteArray)) := (qi BK214.out 0).trans rfl; have hcz29_1 : w26.cell? ⟨gb214, 1, none⟩ = some (.int .i64 0) := (qi BK214.out 1).trans rfl; have hcz29_2 : w26.cell? ⟨gb214, 2, none⟩ = some (.string (⟨#[]⟩ : ByteArray)) := (qi BK214.out 2).trans rfl; have hfz29_0 := qk BK214.out 0; have hfz29_1 := qk BK214.out 1; have hfz29_2 := qk BK214.out 2) | ((with_reducible refine xy (b := .append) (xs := #[.tmp 38, .tmp 40]) rfl ?_); at_builtin; refine Kd.kr k26 (w0 := w) w.heap.size rfl (.tmp 38) (.tmp 40) 27 26 (.agg #[(.string ⟨#[]⟩), (.int .i64 0), (.string ⟨#[]⟩)]) 40 rfl Tryd.underlying27 info26 rfl (by decide) (by omega) u7 x7_2 (⟨t210, t211, t212⟩ : S26) [.string t210, .int .i64 t211, .string t212] (fun k_ => k_ ≠ gb214) (fun _ => False) rfl (by first | (go_simp; done) | (go_simp; rfl)) ?aP (fun _ hk => hk.elim) ?aF ?aO ?aB ?aS ?aL ?_; (case aP => exact kt _ _ _ (⟨t210, t211, t212⟩ : S26)); (case aB => exact (by repeat (first | (with_reducible first | exact HB.out | apply qc | apply qb | apply qd | refine qe ?_ GE197.out | refine qe ?_ GE198.out | refine qe ?_ GE214.out) | exact HB.out))); (case aF => exact (fun k_ hk => Kd.freshB (g := gb214) (o := .cells #[.string t210, .int .i64 t211, .string t212] 26 (0, 0)) (by (with_reducible repeat (first | refine qg ?_ _ | refine qh ?_ | refine qf ?_ _)); refine zw (cs := #[.string t210, .int .i64 t211, .string (⟨#[]⟩ : ByteArray)]) ?_ 2 _ rfl; (with_reducible repeat (first | refine qg ?_ _ | refine qh ?_ | refine qf ?_ _)); refine zw (cs := #[.string t210, .int .i64 0, .string (⟨#[]⟩ : ByteArray)]) ?_ 1 _ rfl; (with_reducible repeat (first | refine qg ?_ _ | refine qh ?_ | refine qf ?_ _)); refine zw (cs := #[.string (⟨#[]⟩ : ByteArray), .int .i64 0, .string (⟨#[]⟩ : ByteArray)]) ?_ 0 _ rfl; (with_reducible repeat (first | refine qg ?_ _ | refine qh ?_ | refine qf ?_ _)); exact BK214.out) k_ hk)); (case aO => exact (by (with_reducible repeat (first | apply Kd.zi | apply Kd.ze | apply Kd.zv)); exact Kd.x2 (Kd.R_far (p := ⟨gb214, 2, none⟩) (Kd.R_far (p := ⟨gb214, 1, none⟩) (Kd.R_far (p := ⟨gb214, 0, none⟩) (Kd.x2 HO_7.out (fun k_ hk => (⟨hk, hk.2⟩ : _ ∧ k_ ≠ gb214))) (fun _ hk => hk.2) (.string t210)) (fun _ hk => hk.2) (.int .i64 t211)) (fun _ hk => hk.2) (.string t212)) (fun _ hk => hk.1.2))); (case aS => exact (qm (by repeat (first | (with_reducible first | exact HB.out | apply qc | apply qb | apply qd | refine qe ?_ GE197.out | refine qe ?_ GE198.out | refine qe ?_ GE214.out) | exact HB.out)))); (case aL => have := LMc24.out; omega); intro v216 w30 ho hb hg hat; rw [← Ny215.out] at ho; have n0_ := qa.mk (Kd.R_over' (by (with_reducible repeat (first | apply Kd.zi | apply Kd.ze | apply Kd.zv)); exact (Kd.x2 (Kd.R_far (p := ⟨gb214, 2, none⟩) (Kd.R_far (p := ⟨gb214, 1, none⟩) (Kd.R_far (p := ⟨gb214, 0, none⟩) (Kd.R_types HO_17.out BK214.out (by decide)) (fun _ hk => hk.2) (.string t210)) (fun _ hk => hk.2) (.int .i64 t211)) (fun _ hk => hk.2) (.string t212)) (fun _ h_ => h_.1))) (Kd.R_typed (by (with_reducible repeat (first | apply Kd.zi | apply Kd.ze | apply Kd.zv)); exact (Kd.x2 (Kd.R_far (p := ⟨gb214, 2, none⟩) (Kd.R_far (p := ⟨gb214, 1, none⟩) (Kd.R_far (p := ⟨gb214, 0, none⟩) (Kd.x2 HO_7.out (fun k_ hk => (⟨hk, hk.2⟩ : _ ∧ k_ ≠ gb214))) (fun _ hk => hk.2) (.string t210)) (fun _ hk => hk.2) (.int .i64 t211)) (fun _ hk => hk.2) (.string t212)) (fun _ h_ => h_.1)))) (by decide) hg); have n1_ := qa.mk (Kd.R_over' (by (with_reducible repeat (first | apply Kd.zi | apply Kd.ze | apply Kd.zv)); exact (Kd.x2 (Kd.R_far (p := ⟨gb214, 2, none⟩) (Kd.R_far (p := ⟨gb214, 1, none⟩) (Kd.R_far (p := ⟨gb214, 0, none⟩) (Kd.R_types HO_24.out BK214.out (by decide)) (fun _ hk => hk.2) (.string t210)) (fun _ hk => hk.2) (.int .i64 t211)) (fun _ hk => hk.2) (.string t212)) (fun _ h_ => h_.1))) (Kd.R_typed (by (with_reducible repeat (first | apply Kd.zi | apply Kd.ze | apply Kd.zv)); exact (Kd.x2 (Kd.R_far (p := ⟨gb214, 2, none⟩) (Kd.R_far (p := ⟨gb214, 1, none⟩) (Kd.R_far (p := ⟨gb214, 0, none⟩) (Kd.x2 HO_7.out (fun k_ hk => (⟨hk, hk.2⟩ : _ ∧ k_ ≠ gb214))) (fun _ hk => hk.2) (.string t210)) (fun _ hk => hk.2) (.int .i64 t211)) (fun _ hk => hk.2) (.string t212)) (fun _ h_ => h_.1)))) (by decide) hg); have n2_ := qa.mk (Kd.S_after (ok := (fun k_ => k_ ≠ gb214)) (by (with_reducible repeat (first | apply Kd.z8 | apply Kd.z7 | apply Kd.xn)); exact Kd.kd (Kd.S_far (p := ⟨gb214, 2, none⟩) (Kd.S_far (p := ⟨gb214, 1, none⟩) (Kd.S_far (p := ⟨gb214, 0, none⟩) (Kd.kd HO_199000.out (fun k_ hk => (⟨hk, hk.2⟩ : _ ∧ k_ ≠ gb214))) (fun _ hk => hk.2) (.string t210)) (fun _ hk => hk.2) (.int .i64 t211)) (fun _ hk => hk.2) (.string t212)) (fun _ hk => ⟨hk.1.2, hk.1.1⟩)) hg hat); have n3_ := qa.mk (kz (g := gb197) (o := .cells #[.slice none 0 0] 24 (0, 0)) (by (with_reducible repeat (first | refine qg ?_ _ | refine qh ?_ | refine qf ?_ _)); refine xd ?_ NB197_214.out _; (with_reducible repeat (first | refine qg ?_ _ | refine qh ?_ | refine qf ?_ _)); refine xd ?_ NB197_214.out _; (with_reducible repeat (first | refine qg ?_ _ | refine qh ?_ | refine qf ?_ _)); refine xd ?_ NB197_214.out _; (with_reducible repeat (first | refine qg ?_ _ | refine qh ?_ | refine qf ?_ _)); exact BK197.out) hg (Kd.R_ne HO_7.out BK197.out (by decide))); have n4_ := qa.mk (kz (g := gb198) (o := .cells #[u199000] 24 (0, 0)) (by (with_reducible repeat (first | refine qg ?_ _ | refine qh ?_ | refine qf ?_ _)); refine xd ?_ NB198_214.out _; (with_reducible repeat (first | refine qg ?_ _ | refine qh ?_ | refine qf ?_ _)); refine xd ?_ NB198_214.out _; (with_reducible repeat (first | refine qg ?_ _ | refine qh ?_ | refine qf ?_ _)); refine xd ?_ NB198_214.out _; (with_reducible repeat (first | refine qg ?_ _ | refine qh ?_ | refine qf ?_ _)); exact BK198.out) hg (Kd.R_ne HO_7.out BK198.out (by decide))); have n5_ := qa.mk (kz (g := gb214) (o := .cells #[.string t210, .int .i64 t211, .string t212] 26 (0, 0)) (by (with_reducible repeat (first | refine qg ?_ _ | refine qh ?_ | refine qf ?_ _)); refine zw (cs := #[.string t210, .int .i64 t211, .string (⟨#[]⟩ : ByteArray)]) ?_ 2 _ rfl; (with_reducible repeat (first | refine qg ?_ _ | refine qh ?_ | refine qf ?_ _)); refine zw (cs := #[.string t210, .int .i64 0, .string (⟨#[]⟩ : ByteArray)]) ?_ 1 _ rfl; (with_reducible repeat (first | refine qg ?_ _ | refine qh ?_ | refine qf ?_ _)); refine zw (cs := #[.string (⟨#[]⟩ : ByteArray), .int .i64 0, .string (⟨#[]⟩ : ByteArray)]) ?_ 0 _ rfl; (with_reducible repeat (first | refine qg ?_ _ | refine qh ?_ | refine qf ?_ _)); exact BK214.out) hg (Kd.R_away HO_7.out (fun _ hk => hk.2))); have n6_ := qa.mk (hb); have n7_ := qa.mk (ho); clear HO_17; clear HO_24; clear HO_199000; clear BK197; clear BK198; clear BK214; clear HB; clear HO_7; have HO_17 := n0_; have HO_24 := n1_; have HO_199000 := n2_; have BK197 := n3_; have BK198 := n4_; have BK214 := n5_; have HB := n6_; have HO217 := n7_; clear n0_ n1_ n2_ n3_ n4_ n5_ n6_ n7_; clear ho hb hg hat))
              go_roundg k2
              case measure => have := HK1.out; have := HK2.out; omega
              case rel => exact ⟨(y215), (wrap64 (x26_2 + 1)), (by first | rfl | (simp; done) | (simp [*]; done)), H', ⟨by have := HK1.out; have := HK2.out; omega⟩, ⟨by (with_reducible repeat (first | apply Kd.zi | apply Kd.ze | apply Kd.zv)); exact Kd.x2 HO217.out (fun _ hk => trivial)⟩, ⟨by (with_reducible repeat (first | apply Kd.zi | apply Kd.ze | apply Kd.zv)); exact HO_17.out⟩, ⟨by (with_reducible repeat (first | apply Kd.zi | apply Kd.ze | apply Kd.zv)); exact HO_24.out⟩, ⟨by (with_reducible repeat (first | apply Kd.z8 | apply Kd.z7 | apply Kd.xn)); exact Kd.kd HO_199000.out (fun _ hk => hk.2)⟩, ⟨by (with_reducible repeat (first | refine qg ?_ _ | refine qh ?_ | refine qf ?_ _)); exact BK197.out⟩, ⟨by (with_reducible repeat (first | refine qg ?_ _ | refine qh ?_ | refine qf ?_ _)); exact BK198.out⟩, ⟨by repeat (first | (with_reducible first | exact HB.out | apply qc | apply qb | apply qd | refine qe ?_ GE197.out | refine qe ?_ GE198.out | refine qe ?_ GE214.out) | exact HB.out)⟩⟩
             ·rw [if_neg c24] at H
              exact absurd H (by simp)
            ·replace c23 := Bool.eq_false_iff.mpr c23
             subst c23
             have H1 : (some (([] : List (List (S26))), 32)) = some (r1, r2) := by rw [if_neg (show ¬ (false = true) by decide)] at H; exact H
             clear H
             have H := H1
             clear H1
             simp only [Option.some.injEq, Prod.mk.injEq] at H
             obtain ⟨rfl, rfl⟩ := H
             have p209 : 0 ≤ (x26_2 : Int) := of_decide_eq_true (by first | (with_reducible assumption) | assumption)
             have q209 : x26_2 < (t203.length : Int) := of_decide_eq_true (by first | (with_reducible assumption) | assumption)
             obtain ⟨ad209, e209, hx209_0⟩ := Kd.at_string (Kd.kg HO_24.out).2.2 x26_2 p209 q209
             cases e209
             replace p209 := eq_true p209
             replace q209 := eq_true q209
             go_wp2_with (first | ((with_reducible refine zk (f := 31) rfl ?_); refine xv (some 32) rfl rfl Tryd.func31 (by kernel_rfl) rfl #[.string (rdOf ByteArray.empty t203 x26_2)] rfl (by (try simp only [List.map_toArray, List.map_cons, List.map_nil]); first | done | rfl | (simp only [List.length_drop, List.length_take]; rfl)) ?_; (with_reducible refine (ql.calls k2 (rdOf ByteArray.empty t203 x26_2) t210 t211 t212 false _ ?side1 A22.out).mono ?_); (case side1 => exact LibHeld.below HG.out (by repeat (first | (with_reducible first | exact HB.out | apply qc | apply qb | apply qd | refine qe ?_ GE197.out | refine qe ?_ GE198.out) | exact HB.out))); rintro e w31 ⟨rfl, hb⟩; refine ⟨_, rfl, ?_⟩; have n0_ := qa.mk (Kd.km (by (with_reducible repeat (first | apply Kd.zi | apply Kd.ze | apply Kd.zv)); exact HO_7.out) hb); have n1_ := qa.mk (Kd.km (by (with_reducible repeat (first | apply Kd.zi | apply Kd.ze | apply Kd.zv)); exact HO_17.out) hb); have n2_ := qa.mk (Kd.km (by (with_reducible repeat (first | apply Kd.zi | apply Kd.ze | apply Kd.zv)); exact HO_24.out) hb); have n3_ := qa.mk (Kd.xz (by (with_reducible repeat (first | apply Kd.z8 | apply Kd.z7 | apply Kd.xn)); exact HO_199000.out) hb); have n4_ := qa.mk (qt (g := gb197) (o := .cells #[.slice none 0 0] 24 (0, 0)) (by (with_reducible repeat (first | refine qg ?_ _ | refine qh ?_ | refine qf ?_ _)); exact BK197.out) hb); have n5_ := qa.mk (qt (g := gb198) (o := .cells #[u199000] 24 (0, 0)) (by (with_reducible repeat (first | refine qg ?_ _ | refine qh ?_ | refine qf ?_ _)); exact BK198.out) hb); have n6_ := qa.mk (qj (by repeat (first | (with_reducible first | exact HB.out | apply qc | apply qb | apply qd | refine qe ?_ GE197.out | refine qe ?_ GE198.out) | exact HB.out)) hb); clear HO_7; clear HO_17; clear HO_24; clear HO_199000; clear BK197; clear BK198; clear HB; have HO_7 := n0_; have HO_17 := n1_; have HO_24 := n2_; have HO_199000 := n3_; have BK197 := n4_; have BK198 := n5_; have HB := n6_; clear n0_ n1_ n2_ n3_ n4_ n5_ n6_; (try clear hb); (try clear hb2); (try clear hk); (try clear hi)) | ((with_reducible refine zd (N := 10) rfl ?_); refine zg ?hg (N := 10) ?hd (cs := #[.string (⟨#[]⟩ : ByteArray), .int .i64 0, .string (⟨#[]⟩ : ByteArray)]) (t := 26) ?hr ?_; (case hd => rfl); (case hg => rfl); (case hr => first | (go_simp; done) | (go_simp; rfl)); intro gb214 hg w32 hbox hb; have n0_ := qa.mk (Kd.km (Kd.R_elderB (by (with_reducible repeat (first | apply Kd.zi | apply Kd.ze | apply Kd.zv)); exact HO_7.out) gb214 (Nat.le_of_eq hg.symm)) hb); have n1_ := qa.mk (Kd.km (by (with_reducible repeat (first | apply Kd.zi | apply Kd.ze | apply Kd.zv)); exact HO_17.out) hb); have n2_ := qa.mk (Kd.km (by (with_reducible repeat (first | apply Kd.zi | apply Kd.ze | apply Kd.zv)); exact HO_24.out) hb); have n3_ := qa.mk (Kd.xz (Kd.S_elderB (by (with_reducible repeat (first | apply Kd.z8 | apply Kd.z7 | apply Kd.xn)); exact HO_199000.out) gb214 (Nat.le_of_eq hg.symm)) hb); have n4_ := qa.mk (qt (g := gb197) (o := .cells #[.slice none 0 0] 24 (0, 0)) (by (with_reducible repeat (first | refine qg ?_ _ | refine qh ?_ | refine qf ?_ _)); exact BK197.out) hb); have n5_ := qa.mk (qt (g := gb198) (o := .cells #[u199000] 24 (0, 0)) (by (with_reducible repeat (first | refine qg ?_ _ | refine qh ?_ | refine qf ?_ _)); exact BK198.out) hb); have n6_ := qa.mk (qj (by repeat (first | (with_reducible first | exact HB.out | apply qc | apply qb | apply qd | refine qe ?_ GE197.out | refine qe ?_ GE198.out) | exact HB.out)) hb); have n7_ := qa.mk (hbox); have n8_ := qa.mk ((by rw [hg]; exact (qm (by repeat (first | (with_reducible first | exact HB.out | apply qc | apply qb | apply qd | refine qe ?_ GE197.out | refine qe ?_ GE198.out) | exact HB.out))) : w.heap.size ≤ gb214)); have n9_ := qa.mk ((by rw [hg]; exact (qm (by repeat (first | (with_reducible first | exact HB.out | apply qc | apply qb | apply qd | refine qe ?_ GE197.out | refine qe ?_ GE198.out) | exact HB.out))) : w.heap.size ≤ gb214)); have n10_ := qa.mk ((by rw [hg]; exact Nat.ne_of_lt (zl (g := gb197) (o := .cells #[.slice none 0 0] 24 (0, 0)) (by (with_reducible repeat (first | refine qg ?_ _ | refine qh ?_ | refine qf ?_ _)); exact BK197.out)) : gb197 ≠ gb214)); have n11_ := qa.mk ((by rw [hg]; exact Nat.ne_of_gt (zl (g := gb197) (o := .cells #[.slice none 0 0] 24 (0, 0)) (by (with_reducible repeat (first | refine qg ?_ _ | refine qh ?_ | refine qf ?_ _)); exact BK197.out)) : gb214 ≠ gb197)); have n12_ := qa.mk ((by rw [hg]; exact Nat.ne_of_lt (zl (g := gb198) (o := .cells #[u199000] 24 (0, 0)) (by (with_reducible repeat (first | refine qg ?_ _ | refine qh ?_ | refine qf ?_ _)); exact BK198.out)) : gb198 ≠ gb214)); have n13_ := qa.mk ((by rw [hg]; exact Nat.ne_of_gt (zl (g := gb198) (o := .cells #[u199000] 24 (0, 0)) (by (with_reducible repeat (first | refine qg ?_ _ | refine qh ?_ | refine qf ?_ _)); exact BK198.out)) : gb214 ≠ gb198)); clear HO_7; clear HO_17; clear HO_24; clear HO_199000; clear BK197; clear BK198; clear HB; have HO_7 := n0_; have HO_17 := n1_; have HO_24 := n2_; have HO_199000 := n3_; have BK197 := n4_; have BK198 := n5_; have HB := n6_; have BK214 := n7_; have GW214 := n8_; have GE214 := n9_; have NB197_214 := n10_; have NB214_197 := n11_; have NB198_214 := n12_; have NB214_198 := n13_; clear n0_ n1_ n2_ n3_ n4_ n5_ n6_ n7_ n8_ n9_ n10_ n11_ n12_ n13_; clear hb hbox hg; have hnb33 := NB214_197.out; have hnc33 := NB197_214.out; have hnb34 := NB214_198.out; have hnc34 := NB198_214.out; have hcz35_0 : w32.cell? ⟨gb214, 0, none⟩ = some (.string (⟨#[]⟩ : ByteArray)) := (qi BK214.out 0).trans rfl; have hcz35_1 : w32.cell? ⟨gb214, 1, none⟩ = some (.int .i64 0) := (qi BK214.out 1).trans rfl; have hcz35_2 : w32.cell? ⟨gb214, 2, none⟩ = some (.string (⟨#[]⟩ : ByteArray)) := (qi BK214.out 2).trans rfl; have hfz35_0 := qk BK214.out 0; have hfz35_1 := qk BK214.out 1; have hfz35_2 := qk BK214.out 2; have hnb36 := NB197_198.out; have hnc36 := NB198_197.out; have hcz37_0 : w32.cell? ⟨gb197, 0, none⟩ = some (.slice none 0 0) := (qi BK197.out 0).trans rfl; have hfz37_0 := qk BK197.out 0))
             refine bodyPost_ret (jb rfl _ _ gb197 24 #[.slice none 0 0] (0, 0) _ rfl (by (with_reducible repeat (first | refine qg ?_ _ | refine qh ?_ | refine qf ?_ _)); refine zw (cs := #[.slice none 0 0]) ?_ 0 _ rfl; (with_reducible repeat (first | refine qg ?_ _ | refine qh ?_ | refine qf ?_ _)); refine xd ?_ NB197_214.out _; (with_reducible repeat (first | refine qg ?_ _ | refine qh ?_ | refine qf ?_ _)); refine xd ?_ NB197_214.out _; (with_reducible repeat (first | refine qg ?_ _ | refine qh ?_ | refine qf ?_ _)); refine xd ?_ NB197_214.out _; (with_reducible repeat (first | refine qg ?_ _ | refine qh ?_ | refine qf ?_ _)); exact BK197.out) Tryd.underlying24 rfl (by kernel_rfl)) rfl ?_
             exact ⟨_, by first | rfl | (simp [qq, qp] <;> rfl) | (simp [*, qq, qp] <;> rfl), by first | exact Kd.S_nil _ _ _ _ _ | exact Kd.N_nil _ _ _ _ _ | exact Kd.V_nil _ _ _ _ _ | exact Kd.Q_nil _ _ _ _ _ | exact Kd.R_nil _ _ _ _ _, by repeat (first | (with_reducible first | exact HB.out | apply qc | apply qb | apply qd | refine qe ?_ GE197.out | refine qe ?_ GE198.out | refine qe ?_ GE214.out) | exact HB.out)⟩
           ·rw [if_neg c21] at H
            exact absurd H (by simp)
          ·rw [if_neg c20] at H
           exact absurd H (by simp)
         ·rw [if_neg c19] at H
          have c19b0 : decide (x26_2 < (t203.length : Int)) = false := decide_eq_false c19
          clear c19
          by_cases c38 : x199000_1.length < 5864062014805
          ·rw [if_pos c38] at H
           have LMc38 := qa.mk c38
           clear c38
           obtain ⟨y206, hy206⟩ : ∃ y_ : List (List (S26)), y_ = (x199000_1 ++ [x7_2]) := ⟨_, rfl⟩
           replace H : (q8.l0 k2 t199 (t199.length : Int) (wrap64 (x19_1 + 1)) y206) = some (r1, r2) := by first | (rw [hy206]; with_reducible exact H) | (have H2_ := (Option.bind_some _ _).symm.trans H; rw [hy206]; with_reducible exact H2_) | (have H2_ := (Option.bind_some _ _).symm.trans H; with_reducible exact H2_) | with_reducible exact H | (rw [hy206]; exact H) | exact H
           have Ny206 := qa.mk hy206
           clear hy206
           have H' := qa.mk H
           clear H
           have hnb39 := NB198_197.out
           have hnc39 := NB197_198.out
           have hcz40_0 : wr.cell? ⟨gb198, 0, none⟩ = some (u199000) := (qi BK198.out 0).trans rfl
           have hfz40_0 := qk BK198.out 0
           obtain ⟨Ao42, co42, eo42⟩ := Kd.ko HO_7.out
           subst eo42
           go_wp2_with (first | ((with_reducible refine xy (b := .append) (xs := #[.tmp 44, .tmp 46]) rfl ?_); at_builtin; refine Kd.S_append (Kd.slice 26 k26) (w0 := w) w.heap.size rfl (.tmp 44) (.tmp 46) 22 27 (.slice none 0 0) 24 rfl Tryd.underlying22 info27 rfl (by decide) (by omega) u199000 x199000_1 x7_2 [.slice Ao42 x7_2.length co42] (fun _ => True) (fun k_ => some k_ = (.slice Ao42 x7_2.length co42 : Value).ownBlock) rfl rfl ?aP (fun k_ hk_ => ((Kd.x2 (ok' := fun k_ => ((fun _ => True)) k_ ∧ some k_ ≠ (u199000 : Value).ownBlock) (Kd.R_apart' (HO_7.out) (Kd.S_typed HO_199000.out) (by decide)) (fun k_ hk => ⟨trivial, hk.2⟩))).1 k_ hk_.symm) ?aF ?aO ?aB ?aS ?aL ?_; (case aP => exact Kd.M_row (Kd.x2 (Kd.R_tight rfl (Kd.x2 (ok' := fun k_ => ((fun _ => True)) k_ ∧ some k_ ≠ (u199000 : Value).ownBlock) (Kd.R_apart' (HO_7.out) (Kd.S_typed HO_199000.out) (by decide)) (fun k_ hk => ⟨trivial, hk.2⟩))) (fun _ h_ => h_))); (case aB => exact (by repeat (first | (with_reducible first | exact HB.out | apply qc | apply qb | apply qd | refine qe ?_ GE197.out | refine qe ?_ GE198.out) | exact HB.out))); (case aF => exact (fun _ _ => trivial)); (case aO => exact (by (with_reducible repeat (first | apply Kd.z8 | apply Kd.z7 | apply Kd.xn)); exact Kd.kd HO_199000.out (fun k_ hk => ⟨trivial, fun e_ => hk e_⟩))); (case aS => exact (qm (by repeat (first | (with_reducible first | exact HB.out | apply qc | apply qb | apply qd | refine qe ?_ GE197.out | refine qe ?_ GE198.out) | exact HB.out)))); (case aL => have := LMc38.out; omega); intro v207 w41 ho hb hg hat; rw [← Ny206.out] at ho; have n0_ := qa.mk (Kd.R_over' (by (with_reducible repeat (first | apply Kd.zi | apply Kd.ze | apply Kd.zv)); exact HO_17.out) (Kd.S_typed (by (with_reducible repeat (first | apply Kd.z8 | apply Kd.z7 | apply Kd.xn)); exact HO_199000.out)) (by decide) hg); have n1_ := qa.mk (Kd.R_over' (by (with_reducible repeat (first | apply Kd.zi | apply Kd.ze | apply Kd.zv)); exact HO_24.out) (Kd.S_typed (by (with_reducible repeat (first | apply Kd.z8 | apply Kd.z7 | apply Kd.xn)); exact HO_199000.out)) (by decide) hg); have n2_ := qa.mk (kz (g := gb197) (o := .cells #[.slice none 0 0] 24 (0, 0)) (by (with_reducible repeat (first | refine qg ?_ _ | refine qh ?_ | refine qf ?_ _)); exact BK197.out) hg (Kd.S_ne HO_199000.out BK197.out (by decide))); have n3_ := qa.mk (kz (g := gb198) (o := .cells #[u199000] 24 (0, 0)) (by (with_reducible repeat (first | refine qg ?_ _ | refine qh ?_ | refine qf ?_ _)); exact BK198.out) hg (Kd.S_ne HO_199000.out BK198.out (by decide))); have n4_ := qa.mk (hb); have n5_ := qa.mk (ho); clear HO_17; clear HO_24; clear BK197; clear BK198; clear HB; clear HO_199000; clear HO_7; have HO_17 := n0_; have HO_24 := n1_; have BK197 := n2_; have BK198 := n3_; have HB := n4_; have HO208 := n5_; clear n0_ n1_ n2_ n3_ n4_ n5_; clear ho hb hg hat; obtain ⟨Ao43, co43, eo43⟩ := Kd.ku HO208.out; subst eo43; have hcz44_0 : w41.cell? ⟨gb198, 0, none⟩ = some (u199000) := (qi BK198.out 0).trans rfl; have hfz44_0 := qk BK198.out 0))
           go_roundg k2
           case measure => have := HK1.out; have := HK2.out; omega
           case rel => exact ⟨(wrap64 (x19_1 + 1)), (y206), (.slice Ao43 y206.length co43), (by first | rfl | (simp; done) | (simp [*]; done)), H', ⟨by have := HK1.out; have := HK2.out; omega⟩, ⟨by (with_reducible repeat (first | apply Kd.zi | apply Kd.ze | apply Kd.zv)); exact Kd.x2 (Kd.R_far (p := ⟨gb198, 0, none⟩) (Kd.R_types HO_17.out BK198.out (by decide)) (fun _ hk => hk.2) (.slice Ao43 y206.length co43)) (fun _ hk => trivial)⟩, ⟨by (with_reducible repeat (first | apply Kd.z8 | apply Kd.z7 | apply Kd.xn)); exact Kd.kd (Kd.S_far (p := ⟨gb198, 0, none⟩) (Kd.kp HO208.out BK198.out (by decide)) (fun _ hk => hk.2) (.slice Ao43 y206.length co43)) (fun _ hk => trivial)⟩, ⟨by (with_reducible repeat (first | refine qg ?_ _ | refine qh ?_ | refine qf ?_ _)); refine xd ?_ NB197_198.out _; (with_reducible repeat (first | refine qg ?_ _ | refine qh ?_ | refine qf ?_ _)); exact BK197.out⟩, ⟨by (with_reducible repeat (first | refine qg ?_ _ | refine qh ?_ | refine qf ?_ _)); refine zw (cs := #[u199000]) ?_ 0 _ rfl; (with_reducible repeat (first | refine qg ?_ _ | refine qh ?_ | refine qf ?_ _)); exact BK198.out⟩, ⟨by repeat (first | (with_reducible first | exact HB.out | apply qc | apply qb | apply qd | refine qe ?_ GE197.out | refine qe ?_ GE198.out) | exact HB.out)⟩⟩
          ·rw [if_neg c38] at H
           exact absurd H (by simp)
      ·rw [if_neg c15] at H
       exact absurd H (by simp)
     ·rw [if_neg c14] at H
      exact absurd H (by simp)
    ·rw [if_neg c13] at H
     have c13b0 : decide (x19_1 < (t199.length : Int)) = false := decide_eq_false c13
     clear c13
     replace H := Option.bind_eq_some_iff.mp H
     obtain ⟨t218, A450, H⟩ := H
     replace H : (if t218 = 0 then (some (x199000_1, 0)) else (some (([] : List (List (S26))), t218))) = some (r1, r2) := H
     have A45 := qa.mk A450
     clear A450
     by_cases c46 : t218 = 0
     ·rw [if_pos c46] at H
      have c46b0 : (t218 == 0) = true := beq_iff_eq.mpr c46
      have c46b1 : (t218 != 0) = false := bne_eq_false_iff_eq.mpr c46
      clear c46
      simp only [Option.some.injEq, Prod.mk.injEq] at H
      obtain ⟨rfl, rfl⟩ := H
      have hnb47 := NB198_197.out
      have hnc47 := NB197_198.out
      have hcz48_0 : wr.cell? ⟨gb198, 0, none⟩ = some (u199000) := (qi BK198.out 0).trans rfl
      have hfz48_0 := qk BK198.out 0
      obtain ⟨Ao49, co49, eo49⟩ := Kd.ku HO_199000.out
      subst eo49
      go_wp2_with (first | ((with_reducible refine zk (f := 7) rfl ?_); refine xv (some 51) rfl rfl Tryd.func7 (by kernel_rfl) rfl #[.agg #[.slice Ao49 x199000_1.length co49]] rfl (by (try simp only [List.map_toArray, List.map_cons, List.map_nil]); first | done | rfl | (simp only [List.length_drop, List.length_take]; rfl)) ?_; (with_reducible refine (zz.calls k1 _ _ x199000_1 t218 _ ?side3 ?side1 ?side2 A45.out).mono ?_); (case side1 => repeat (first | exact (Kd.k5 HO_199000.out).2.2 | (with_reducible refine Kd.ke ?_ _) | (with_reducible refine Kd.kf ?_ _) | (with_reducible refine Kd.ks ?_))); (case side2 => exact (Kd.k5 HO_199000.out).2.1); (case side3 => exact LibHeld.below HG.out (by repeat (first | (with_reducible first | exact HB.out | apply qc | apply qb | apply qd | refine qe ?_ GE197.out | refine qe ?_ GE198.out) | exact HB.out))); rintro e w50 ⟨rfl, hb⟩; refine ⟨_, rfl, ?_⟩; have n0_ := qa.mk (Kd.km (by (with_reducible repeat (first | apply Kd.zi | apply Kd.ze | apply Kd.zv)); exact HO_17.out) hb); have n1_ := qa.mk (Kd.xz (by (with_reducible repeat (first | apply Kd.z8 | apply Kd.z7 | apply Kd.xn)); exact HO_199000.out) hb); have n2_ := qa.mk (qt (g := gb197) (o := .cells #[.slice none 0 0] 24 (0, 0)) (by (with_reducible repeat (first | refine qg ?_ _ | refine qh ?_ | refine qf ?_ _)); exact BK197.out) hb); have n3_ := qa.mk (qt (g := gb198) (o := .cells #[.slice Ao49 x199000_1.length co49] 24 (0, 0)) (by (with_reducible repeat (first | refine qg ?_ _ | refine qh ?_ | refine qf ?_ _)); exact BK198.out) hb); have n4_ := qa.mk (qj (by repeat (first | (with_reducible first | exact HB.out | apply qc | apply qb | apply qd | refine qe ?_ GE197.out | refine qe ?_ GE198.out) | exact HB.out)) hb); clear HO_17; clear HO_199000; clear BK197; clear BK198; clear HB; have HO_17 := n0_; have HO_199000 := n1_; have BK197 := n2_; have BK198 := n3_; have HB := n4_; clear n0_ n1_ n2_ n3_ n4_; (try clear hb); (try clear hb2); (try clear hk); (try clear hi); have hcz51_0 : w50.cell? ⟨gb198, 0, none⟩ = some (.slice Ao49 x199000_1.length co49) := (qi BK198.out 0).trans rfl; have hfz51_0 := qk BK198.out 0; have hcz52_0 : w50.cell? ⟨gb197, 0, none⟩ = some (.slice none 0 0) := (qi BK197.out 0).trans rfl; have hfz52_0 := qk BK197.out 0))
      refine bodyPost_ret (jb rfl _ _ gb197 24 #[.slice Ao49 x199000_1.length co49] (0, 0) _ rfl (by (with_reducible repeat (first | refine qg ?_ _ | refine qh ?_ | refine qf ?_ _)); refine zw (cs := #[.slice none 0 0]) ?_ 0 _ rfl; (with_reducible repeat (first | refine qg ?_ _ | refine qh ?_ | refine qf ?_ _)); exact BK197.out) Tryd.underlying24 rfl (by kernel_rfl)) rfl ?_
      exact ⟨_, by first | rfl | (simp [qq, qp] <;> rfl) | (simp [*, qq, qp] <;> rfl), by (with_reducible repeat (first | apply Kd.z8 | apply Kd.z7 | apply Kd.xn)); exact Kd.kd (Kd.S_far (p := ⟨gb197, 0, none⟩) (Kd.kp HO_199000.out BK197.out (by decide)) (fun _ hk => hk.2) (.slice Ao49 x199000_1.length co49)) (fun _ hk => trivial), by repeat (first | (with_reducible first | exact HB.out | apply qc | apply qb | apply qd | refine qe ?_ GE197.out | refine qe ?_ GE198.out) | exact HB.out)⟩
     ·rw [if_neg c46] at H
      have c46b0 : (t218 == 0) = false := beq_eq_false_iff_ne.mpr c46
      have c46b1 : (t218 != 0) = true := bne_iff_ne.mpr c46
      simp only [Option.some.injEq, Prod.mk.injEq] at H
      obtain ⟨rfl, rfl⟩ := H
      have hnb53 := NB198_197.out
      have hnc53 := NB197_198.out
      have hcz54_0 : wr.cell? ⟨gb198, 0, none⟩ = some (u199000) := (qi BK198.out 0).trans rfl
      have hfz54_0 := qk BK198.out 0
      obtain ⟨Ao55, co55, eo55⟩ := Kd.ku HO_199000.out
      subst eo55
      go_wp2_with (first | ((with_reducible refine zk (f := 7) rfl ?_); refine xv (some 51) rfl rfl Tryd.func7 (by kernel_rfl) rfl #[.agg #[.slice Ao55 x199000_1.length co55]] rfl (by (try simp only [List.map_toArray, List.map_cons, List.map_nil]); first | done | rfl | (simp only [List.length_drop, List.length_take]; rfl)) ?_; (with_reducible refine (zz.calls k1 _ _ x199000_1 t218 _ ?side3 ?side1 ?side2 A45.out).mono ?_); (case side1 => repeat (first | exact (Kd.k5 HO_199000.out).2.2 | (with_reducible refine Kd.ke ?_ _) | (with_reducible refine Kd.kf ?_ _) | (with_reducible refine Kd.ks ?_))); (case side2 => exact (Kd.k5 HO_199000.out).2.1); (case side3 => exact LibHeld.below HG.out (by repeat (first | (with_reducible first | exact HB.out | apply qc | apply qb | apply qd | refine qe ?_ GE197.out | refine qe ?_ GE198.out) | exact HB.out))); rintro e w56 ⟨rfl, hb⟩; refine ⟨_, rfl, ?_⟩; have n0_ := qa.mk (Kd.km (by (with_reducible repeat (first | apply Kd.zi | apply Kd.ze | apply Kd.zv)); exact HO_17.out) hb); have n1_ := qa.mk (Kd.xz (by (with_reducible repeat (first | apply Kd.z8 | apply Kd.z7 | apply Kd.xn)); exact HO_199000.out) hb); have n2_ := qa.mk (qt (g := gb197) (o := .cells #[.slice none 0 0] 24 (0, 0)) (by (with_reducible repeat (first | refine qg ?_ _ | refine qh ?_ | refine qf ?_ _)); exact BK197.out) hb); have n3_ := qa.mk (qt (g := gb198) (o := .cells #[.slice Ao55 x199000_1.length co55] 24 (0, 0)) (by (with_reducible repeat (first | refine qg ?_ _ | refine qh ?_ | refine qf ?_ _)); exact BK198.out) hb); have n4_ := qa.mk (qj (by repeat (first | (with_reducible first | exact HB.out | apply qc | apply qb | apply qd | refine qe ?_ GE197.out | refine qe ?_ GE198.out) | exact HB.out)) hb); clear HO_17; clear HO_199000; clear BK197; clear BK198; clear HB; have HO_17 := n0_; have HO_199000 := n1_; have BK197 := n2_; have BK198 := n3_; have HB := n4_; clear n0_ n1_ n2_ n3_ n4_; (try clear hb); (try clear hb2); (try clear hk); (try clear hi); have hcz57_0 : w56.cell? ⟨gb197, 0, none⟩ = some (.slice none 0 0) := (qi BK197.out 0).trans rfl; have hfz57_0 := qk BK197.out 0))
      refine bodyPost_ret (jb rfl _ _ gb197 24 #[.slice none 0 0] (0, 0) _ rfl (by (with_reducible repeat (first | refine qg ?_ _ | refine qh ?_ | refine qf ?_ _)); refine zw (cs := #[.slice none 0 0]) ?_ 0 _ rfl; (with_reducible repeat (first | refine qg ?_ _ | refine qh ?_ | refine qf ?_ _)); exact BK197.out) Tryd.underlying24 rfl (by kernel_rfl)) rfl ?_
      exact ⟨_, by first | rfl | (simp [qq, qp] <;> rfl) | (simp [*, qq, qp] <;> rfl), by first | exact Kd.S_nil _ _ _ _ _ | exact Kd.N_nil _ _ _ _ _ | exact Kd.V_nil _ _ _ _ _ | exact Kd.Q_nil _ _ _ _ _ | exact Kd.R_nil _ _ _ _ _, by repeat (first | (with_reducible first | exact HB.out | apply qc | apply qb | apply qd | refine qe ?_ GE197.out | refine qe ?_ GE198.out) | exact HB.out)⟩
end Go.Proofs.YtjhlinifnjoefaaDoor.C
end
