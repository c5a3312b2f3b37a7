/- Words, walks and plain laws that the claim rests on, gathered. -/
import Derived.Laws.StructEq
import Derived.Below
import Derived.Deep.Draws
import Derived.Deep.AppendLies
import Derived.Maps.AppendAt
import Derived.OwnWalk
import Derived.Laws.BytesArg
import Derived.Laws.MakeOwn
import Derived.Laws.OwnMore
import Derived.Deep.OwnRows
import Derived.Tactics
import Derived.Lib.ConvBytes
import Derived.Laws.Slices
import Derived.WalkKit
import Derived.KernelRfl
import Derived.RowKit3
import Derived.Deep.LoopGhost
import Derived.Deep.QuietTactic
import Derived.BigQuiet
import Derived.WideLaws
import Derived.Deep.DeepCutAuto
import Derived.Deep.CutBlock
import Derived.Deep.RegionHeld3
import Derived.Laws.Rows
import Derived.Lib.AppendStr
import Derived.ArgAppend
import Derived.Laws.IdiomCopy
import Derived.RowKit
import Derived.Test.YtjhlinifnjoefaaDoorProg
import Derived.WalkSpells
import Derived.OrdersHeld
import Derived.Laws.BitsLemmas
import Derived.Shelf.Small.Strs
import Derived.Shelf.Strings.Search1
import Derived.Shelf.Strings.Search2
import Derived.Shelf.Strings.Search3
import Derived.Shelf.Strings.Cut
import Derived.Shelf.Strings.Count
import Derived.Shelf.LaysM
import Derived.Shelf.Strings.Shaped
import Derived.Shelf.Strings.Prefix
import Derived.Shelf.Strings.Split
import Derived.Shelf.Strings.SplitShaped
import Derived.Shelf.Unicode.DecodeSlow
import Derived.Test.YtjhlinifnjoefaaDoorNA0
import Derived.Test.YtjhlinifnjoefaaDoorNA1
import Derived.Test.YtjhlinifnjoefaaDoorNA2
namespace Go.Proofs.YtjhlinifnjoefaaDoorW.PrintLast
end Go.Proofs.YtjhlinifnjoefaaDoorW.PrintLast
namespace Go.Proofs.YtjhlinifnjoefaaDoorW.PrintMore
end Go.Proofs.YtjhlinifnjoefaaDoorW.PrintMore
namespace Go.Proofs.YtjhlinifnjoefaaDoorW.PrintWords
end Go.Proofs.YtjhlinifnjoefaaDoorW.PrintWords
section
namespace Go.Proofs.YtjhlinifnjoefaaDoor.C
open Go.RowKit Go.Proofs.YtjhlinifnjoefaaDoorW.PrintWords Go.Proofs.YtjhlinifnjoefaaDoorW.PrintLast Go.Proofs.YtjhlinifnjoefaaDoorW.PrintMore
attribute [local go_sem] xr xp xw xx xf xe xq xo
set_option linter.unusedVariables false
set_option linter.unusedSimpArgs false
def zx.l0 : Nat → List (S26) → List (S26) → Int → Int → Option (Bool)
 | 0, _, _, _, _ => none
 | k + 1, x0, x1, x12, x13 => if x13 < x12 then (if 0 ≤ x13 then (if x13 < (x0.length : Int) then ((zy.f k x1 ((qn x0 x13).f0) ((qn x0 x13).f1) ((qn x0 x13).f2)).bind fun t131 => (if t131 = true then (if x13 < (x1.length : Int) then ((zy.f k x0 ((qn x1 x13).f0) ((qn x1 x13).f1) ((qn x1 x13).f2)).bind fun t133 => (if t133 = true then (zx.l0 k x0 x1 x12 (wrap64 (x13 + 1))) else (some false))) else (none)) else (some false))) else (none)) else (none)) else (some true)
def zx.f (k : Nat) (l0 : List (S26)) (l1 : List (S26)) : Option (Bool) := if (l0.length : Int) = (l1.length : Int) then (zx.l0 k l0 l1 (l0.length : Int) 0) else (some false)
theorem zx.xu : ∀ k, (∀ y0 y1 y2 y3, LeO (zx.l0 k y0 y1 y2 y3) (zx.l0 (k + 1) y0 y1 y2 y3))
 | 0 => fun _ _ _ _ r h => by simp [zx.l0] at h
 | k + 1 => by
  have ih0 := zx.xu k
  ·intro y0 y1 y2 y3
   unfold zx.l0
   repeat' first
   | (with_reducible exact ih0 _ _ _ _)
   | (with_reducible exact zy.mono _ _ _ _ _)
   | (with_reducible exact LeO.refl _)
   | (with_reducible exact LeO.none _)
   | (with_reducible refine LeO.ite ?_ ?_)
   | (with_reducible refine LeO.bind ?_ (fun _ => ?_))
theorem zx.mono : ∀ a0 a1 k, LeO (zx.f k a0 a1) (zx.f (k + 1) a0 a1) := by
 intro a0 a1 k
 have ih0 := zx.xu k
 unfold zx.f
 repeat' first
   | (with_reducible exact ih0 _ _ _ _)
   | (with_reducible exact zy.mono _ _ _ _ _)
   | (with_reducible exact LeO.refl _)
   | (with_reducible exact LeO.none _)
   | (with_reducible refine LeO.ite ?_ ?_)
   | (with_reducible refine LeO.bind ?_ (fun _ => ?_))
set_option maxHeartbeats 8000000 in
set_option maxRecDepth 100000 in
theorem zx.calls (k : Nat) (A0 : Option Addr) (c0 : Nat) (l0 : List (S26)) (A1 : Option Addr) (c1 : Nat) (l1 : List (S26)) (r : Bool) (w : World) (hr0 : Kd.C k26 w A0 l0.length l0) (hc0 : l0.length ≤ c0) (hr1 : Kd.C k26 w A1 l1.length l1) (hc1 : l1.length ≤ c1) (h : zx.f k l0 l1 = some r) :
  Calls Tryd.prog 24 #[.slice A0 l0.length c0, .slice A1 l1.length c1] w fun e w' => e = .returned (.bool r) ∧ Below w.heap.size w w' := by
 have hu26 := Tryd.underlying26
 have HR0 := qa.mk hr0
 have HC0 := qa.mk hc0
 clear hr0 hc0
 have HR1 := qa.mk hr1
 have HC1 := qa.mk hc1
 clear hr1 hc1
 have HB := qa.mk (Below.refl w.heap.size w)
 have H : (if (l0.length : Int) = (l1.length : Int) then (zx.l0 k l0 l1 (l0.length : Int) 0) else (some false)) = some r := h
 clear h
 by_cases c3 : (l0.length : Int) = (l1.length : Int)
 ·rw [if_pos c3] at H
  have c3b0 : ((l0.length : Int) == (l1.length : Int)) = true := beq_iff_eq.mpr c3
  have c3b1 : ((l0.length : Int) != (l1.length : Int)) = false := bne_eq_false_iff_eq.mpr c3
  have c3b2 : (l0.length == l1.length) = true := by first | simpa using c3 | (simp at c3 ⊢; omega)
  clear c3
  have H' := qa.mk H
  clear H
  go_enter Tryd.func24, Tryd.ntmps24
  go_wp2
  go_loopg [13] k (fun kq v13 w' => ∃ (x13_1 : Int), v13 = .int .i64 x13_1 ∧ qa (zx.l0 kq l0 l1 (l0.length : Int) x13_1 = some r) ∧ qa (kq ≤ k) ∧ qa (Below w.heap.size w w'))
  case atStart => exact ⟨(0), (by first | rfl | (simp; done) | (simp [*]; done)), H', ⟨Nat.le_refl _⟩, ⟨by repeat (first | (with_reducible first | exact HB.out | apply qc | apply qb | apply qd) | exact HB.out)⟩⟩
  case round =>
   clear H'
   (try clear c1); (try clear c2); (try clear p2); (try clear c3); (try clear c3b0); (try clear c3b1); try clear c3b2
   obtain ⟨x13_1, rfl, HA, HK1, HB⟩ := hrel
   cases gk with
   | zero => exact absurd HA.out (by simp [zx.l0])
   | succ k1 =>
    have H := HA.out
    clear HA
    simp only [zx.l0] at H
    by_cases c4 : x13_1 < (l0.length : Int)
    ·rw [if_pos c4] at H
     have c4b0 : decide (x13_1 < (l0.length : Int)) = true := decide_eq_true c4
     clear c4
     by_cases c5 : 0 ≤ x13_1
     ·rw [if_pos c5] at H
      have c5b0 : decide (0 ≤ x13_1) = true := decide_eq_true c5
      clear c5
      by_cases c6 : x13_1 < (l0.length : Int)
      ·rw [if_pos c6] at H
       have c6b0 : decide (x13_1 < (l0.length : Int)) = true := decide_eq_true c6
       clear c6
       replace H := Option.bind_eq_some_iff.mp H
       obtain ⟨t131, A70, H⟩ := H
       replace H : (if t131 = true then (if x13_1 < (l1.length : Int) then ((zy.f k1 l0 ((qn l1 x13_1).f0) ((qn l1 x13_1).f1) ((qn l1 x13_1).f2)).bind fun t133 => (if t133 = true then (zx.l0 k1 l0 l1 (l0.length : Int) (wrap64 (x13_1 + 1))) else (some false))) else (none)) else (some false)) = some r := H
       have A7 := qa.mk A70
       clear A70
       by_cases c8 : t131 = true
       ·subst c8
        have H1 : (if x13_1 < (l1.length : Int) then ((zy.f k1 l0 ((qn l1 x13_1).f0) ((qn l1 x13_1).f1) ((qn l1 x13_1).f2)).bind fun t133 => (if t133 = true then (zx.l0 k1 l0 l1 (l0.length : Int) (wrap64 (x13_1 + 1))) else (some false))) else (none)) = some r := by rw [if_pos rfl] at H; exact H
        clear H
        have H := H1
        clear H1
        by_cases c9 : x13_1 < (l1.length : Int)
        ·rw [if_pos c9] at H
         have c9b0 : decide (x13_1 < (l1.length : Int)) = true := decide_eq_true c9
         clear c9
         replace H := Option.bind_eq_some_iff.mp H
         obtain ⟨t133, A100, H⟩ := H
         replace H : (if t133 = true then (zx.l0 k1 l0 l1 (l0.length : Int) (wrap64 (x13_1 + 1))) else (some false)) = some r := H
         have A10 := qa.mk A100
         clear A100
         by_cases c11 : t133 = true
         ·subst c11
          have H1 : (zx.l0 k1 l0 l1 (l0.length : Int) (wrap64 (x13_1 + 1))) = some r := by rw [if_pos rfl] at H; exact H
          clear H
          have H := H1
          clear H1
          have H' := qa.mk H
          clear H
          have p130 : 0 ≤ (x13_1 : Int) := of_decide_eq_true (by first | (with_reducible assumption) | assumption)
          have q130 : x13_1 < (l0.length : Int) := of_decide_eq_true (by first | (with_reducible assumption) | assumption)
          obtain ⟨ad130, e130, hx130_0, hx130_1, hx130_2⟩ := kv HR0.out x13_1 p130 q130
          cases e130
          replace hx130_0 := (HB.out.cell (World.block_lt_of_cell? w _ hx130_0)).trans hx130_0
          replace hx130_1 := (HB.out.cell (World.block_lt_of_cell? w _ hx130_1)).trans hx130_1
          replace hx130_2 := (HB.out.cell (World.block_lt_of_cell? w _ hx130_2)).trans hx130_2
          replace p130 := eq_true p130
          replace q130 := eq_true q130
          go_wp2_with (first | ((with_reducible refine zk (f := 32) rfl ?_); refine xv (some 21) rfl rfl Tryd.func32 (by kernel_rfl) rfl #[.slice A1 l1.length c1, .agg #[.string ((qn l0 x13_1).f0), .int .i64 ((qn l0 x13_1).f1), .string ((qn l0 x13_1).f2)]] rfl (by (try simp only [List.map_toArray, List.map_cons, List.map_nil]); first | done | rfl | (simp only [List.length_drop, List.length_take]; rfl)) ?_; (with_reducible refine (zy.calls k1 _ _ l1 ((qn l0 x13_1).f0) ((qn l0 x13_1).f1) ((qn l0 x13_1).f2) true _ ?side1 ?side2 A7.out).mono ?_); (case side1 => repeat (first | exact (Kd.xc HR1.out HB.out) | (with_reducible refine Kd.ke ?_ _) | (with_reducible refine Kd.kf ?_ _) | (with_reducible refine Kd.ks ?_))); (case side2 => exact HC1.out); rintro e w12 ⟨rfl, hb⟩; refine ⟨_, rfl, ?_⟩; have n0_ := qa.mk (qj (by repeat (first | (with_reducible first | exact HB.out | apply qc | apply qb | apply qd) | exact HB.out)) hb); clear HB; have HB := n0_; clear n0_; (try clear hb); (try clear hb2); (try clear hk); (try clear hi); have p132 : 0 ≤ (x13_1 : Int) := of_decide_eq_true (by first | (with_reducible assumption) | assumption); have q132 : x13_1 < (l1.length : Int) := of_decide_eq_true (by first | (with_reducible assumption) | assumption); obtain ⟨ad132, e132, hx132_0, hx132_1, hx132_2⟩ := kv HR1.out x13_1 p132 q132; cases e132; replace hx132_0 := (HB.out.cell (World.block_lt_of_cell? w _ hx132_0)).trans hx132_0; replace hx132_1 := (HB.out.cell (World.block_lt_of_cell? w _ hx132_1)).trans hx132_1; replace hx132_2 := (HB.out.cell (World.block_lt_of_cell? w _ hx132_2)).trans hx132_2; replace p132 := eq_true p132; replace q132 := eq_true q132) | (go_at_call 32; (with_reducible refine (zy.calls k1 _ _ l0 ((qn l1 x13_1).f0) ((qn l1 x13_1).f1) ((qn l1 x13_1).f2) true _ ?side1 ?side2 A10.out).mono ?_); (case side1 => repeat (first | exact (Kd.xc HR0.out HB.out) | (with_reducible refine Kd.ke ?_ _) | (with_reducible refine Kd.kf ?_ _) | (with_reducible refine Kd.ks ?_))); (case side2 => exact HC0.out); rintro e w13 ⟨rfl, hb⟩; have n0_ := qa.mk (qj (by repeat (first | (with_reducible first | exact HB.out | apply qc | apply qb | apply qd) | exact HB.out)) hb); clear HB; have HB := n0_; clear n0_; (try clear hb); (try clear hb2); (try clear hk); (try clear hi)))
          go_roundg k1
          case measure => have := HK1.out; omega
          case rel => exact ⟨(wrap64 (x13_1 + 1)), (by first | rfl | (simp; done) | (simp [*]; done)), H', ⟨by have := HK1.out; omega⟩, ⟨by repeat (first | (with_reducible first | exact HB.out | apply qc | apply qb | apply qd) | exact HB.out)⟩⟩
         ·replace c11 := Bool.eq_false_iff.mpr c11
          subst c11
          have H1 : (some false) = some r := by rw [if_neg (show ¬ (false = true) by decide)] at H; exact H
          clear H
          have H := H1
          clear H1
          obtain rfl := Option.some.inj H
          have p130 : 0 ≤ (x13_1 : Int) := of_decide_eq_true (by first | (with_reducible assumption) | assumption)
          have q130 : x13_1 < (l0.length : Int) := of_decide_eq_true (by first | (with_reducible assumption) | assumption)
          obtain ⟨ad130, e130, hx130_0, hx130_1, hx130_2⟩ := kv HR0.out x13_1 p130 q130
          cases e130
          replace hx130_0 := (HB.out.cell (World.block_lt_of_cell? w _ hx130_0)).trans hx130_0
          replace hx130_1 := (HB.out.cell (World.block_lt_of_cell? w _ hx130_1)).trans hx130_1
          replace hx130_2 := (HB.out.cell (World.block_lt_of_cell? w _ hx130_2)).trans hx130_2
          replace p130 := eq_true p130
          replace q130 := eq_true q130
          go_wp2_with (first | ((with_reducible refine zk (f := 32) rfl ?_); refine xv (some 21) rfl rfl Tryd.func32 (by kernel_rfl) rfl #[.slice A1 l1.length c1, .agg #[.string ((qn l0 x13_1).f0), .int .i64 ((qn l0 x13_1).f1), .string ((qn l0 x13_1).f2)]] rfl (by (try simp only [List.map_toArray, List.map_cons, List.map_nil]); first | done | rfl | (simp only [List.length_drop, List.length_take]; rfl)) ?_; (with_reducible refine (zy.calls k1 _ _ l1 ((qn l0 x13_1).f0) ((qn l0 x13_1).f1) ((qn l0 x13_1).f2) true _ ?side1 ?side2 A7.out).mono ?_); (case side1 => repeat (first | exact (Kd.xc HR1.out HB.out) | (with_reducible refine Kd.ke ?_ _) | (with_reducible refine Kd.kf ?_ _) | (with_reducible refine Kd.ks ?_))); (case side2 => exact HC1.out); rintro e w14 ⟨rfl, hb⟩; refine ⟨_, rfl, ?_⟩; have n0_ := qa.mk (qj (by repeat (first | (with_reducible first | exact HB.out | apply qc | apply qb | apply qd) | exact HB.out)) hb); clear HB; have HB := n0_; clear n0_; (try clear hb); (try clear hb2); (try clear hk); (try clear hi); have p132 : 0 ≤ (x13_1 : Int) := of_decide_eq_true (by first | (with_reducible assumption) | assumption); have q132 : x13_1 < (l1.length : Int) := of_decide_eq_true (by first | (with_reducible assumption) | assumption); obtain ⟨ad132, e132, hx132_0, hx132_1, hx132_2⟩ := kv HR1.out x13_1 p132 q132; cases e132; replace hx132_0 := (HB.out.cell (World.block_lt_of_cell? w _ hx132_0)).trans hx132_0; replace hx132_1 := (HB.out.cell (World.block_lt_of_cell? w _ hx132_1)).trans hx132_1; replace hx132_2 := (HB.out.cell (World.block_lt_of_cell? w _ hx132_2)).trans hx132_2; replace p132 := eq_true p132; replace q132 := eq_true q132) | (go_at_call 32; (with_reducible refine (zy.calls k1 _ _ l0 ((qn l1 x13_1).f0) ((qn l1 x13_1).f1) ((qn l1 x13_1).f2) false _ ?side1 ?side2 A10.out).mono ?_); (case side1 => repeat (first | exact (Kd.xc HR0.out HB.out) | (with_reducible refine Kd.ke ?_ _) | (with_reducible refine Kd.kf ?_ _) | (with_reducible refine Kd.ks ?_))); (case side2 => exact HC0.out); rintro e w15 ⟨rfl, hb⟩; have n0_ := qa.mk (qj (by repeat (first | (with_reducible first | exact HB.out | apply qc | apply qb | apply qd) | exact HB.out)) hb); clear HB; have HB := n0_; clear n0_; (try clear hb); (try clear hb2); (try clear hk); (try clear hi)))
          go_ret
          exact ⟨by first | rfl | (simp [qq, qp] <;> rfl) | (simp [*, qq, qp] <;> rfl), by repeat (first | (with_reducible first | exact HB.out | apply qc | apply qb | apply qd) | exact HB.out)⟩
        ·rw [if_neg c9] at H
         exact absurd H (by simp)
       ·replace c8 := Bool.eq_false_iff.mpr c8
        subst c8
        have H1 : (some false) = some r := by rw [if_neg (show ¬ (false = true) by decide)] at H; exact H
        clear H
        have H := H1
        clear H1
        obtain rfl := Option.some.inj H
        have p130 : 0 ≤ (x13_1 : Int) := of_decide_eq_true (by first | (with_reducible assumption) | assumption)
        have q130 : x13_1 < (l0.length : Int) := of_decide_eq_true (by first | (with_reducible assumption) | assumption)
        obtain ⟨ad130, e130, hx130_0, hx130_1, hx130_2⟩ := kv HR0.out x13_1 p130 q130
        cases e130
        replace hx130_0 := (HB.out.cell (World.block_lt_of_cell? w _ hx130_0)).trans hx130_0
        replace hx130_1 := (HB.out.cell (World.block_lt_of_cell? w _ hx130_1)).trans hx130_1
        replace hx130_2 := (HB.out.cell (World.block_lt_of_cell? w _ hx130_2)).trans hx130_2
        replace p130 := eq_true p130
        replace q130 := eq_true q130
        go_wp2_with (first | ((with_reducible refine zk (f := 32) rfl ?_); refine xv (some 21) rfl rfl Tryd.func32 (by kernel_rfl) rfl #[.slice A1 l1.length c1, .agg #[.string ((qn l0 x13_1).f0), .int .i64 ((qn l0 x13_1).f1), .string ((qn l0 x13_1).f2)]] rfl (by (try simp only [List.map_toArray, List.map_cons, List.map_nil]); first | done | rfl | (simp only [List.length_drop, List.length_take]; rfl)) ?_; (with_reducible refine (zy.calls k1 _ _ l1 ((qn l0 x13_1).f0) ((qn l0 x13_1).f1) ((qn l0 x13_1).f2) false _ ?side1 ?side2 A7.out).mono ?_); (case side1 => repeat (first | exact (Kd.xc HR1.out HB.out) | (with_reducible refine Kd.ke ?_ _) | (with_reducible refine Kd.kf ?_ _) | (with_reducible refine Kd.ks ?_))); (case side2 => exact HC1.out); rintro e w16 ⟨rfl, hb⟩; refine ⟨_, rfl, ?_⟩; have n0_ := qa.mk (qj (by repeat (first | (with_reducible first | exact HB.out | apply qc | apply qb | apply qd) | exact HB.out)) hb); clear HB; have HB := n0_; clear n0_; (try clear hb); (try clear hb2); (try clear hk); (try clear hi)))
        go_ret
        exact ⟨by first | rfl | (simp [qq, qp] <;> rfl) | (simp [*, qq, qp] <;> rfl), by repeat (first | (with_reducible first | exact HB.out | apply qc | apply qb | apply qd) | exact HB.out)⟩
      ·rw [if_neg c6] at H
       exact absurd H (by simp)
     ·rw [if_neg c5] at H
      exact absurd H (by simp)
    ·rw [if_neg c4] at H
     have c4b0 : decide (x13_1 < (l0.length : Int)) = false := decide_eq_false c4
     clear c4
     obtain rfl := Option.some.inj H
     go_wp2
     go_ret
     exact ⟨by first | rfl | (simp [qq, qp] <;> rfl) | (simp [*, qq, qp] <;> rfl), by repeat (first | (with_reducible first | exact HB.out | apply qc | apply qb | apply qd) | exact HB.out)⟩
 ·rw [if_neg c3] at H
  have c3b0 : ((l0.length : Int) == (l1.length : Int)) = false := beq_eq_false_iff_ne.mpr c3
  have c3b1 : ((l0.length : Int) != (l1.length : Int)) = true := bne_iff_ne.mpr c3
  have c3b2 : (l0.length == l1.length) = false := by first | simpa using c3 | (simp at c3 ⊢; omega)
  obtain rfl := Option.some.inj H
  go_enter Tryd.func24, Tryd.ntmps24
  go_wp2
  go_ret
  exact ⟨by first | rfl | (simp [qq, qp] <;> rfl) | (simp [*, qq, qp] <;> rfl), by repeat (first | (with_reducible first | exact HB.out | apply qc | apply qb | apply qd) | exact HB.out)⟩
end Go.Proofs.YtjhlinifnjoefaaDoor.C
end
section
namespace Go.Proofs.YtjhlinifnjoefaaDoor.C
open Go.RowKit Go.Proofs.YtjhlinifnjoefaaDoorW.PrintWords Go.Proofs.YtjhlinifnjoefaaDoorW.PrintLast Go.Proofs.YtjhlinifnjoefaaDoorW.PrintMore
attribute [local go_sem] xr xp xw xx xf xe xq xo
set_option linter.unusedVariables false
set_option linter.unusedSimpArgs false
def q9.l0 : Nat → Int → Int → List (List (S26)) → List (List (S26)) → Option (Bool)
 | 0, _, _, _, _ => none
 | k + 1, x15, x16, x135000, x136000 => if x16 < x15 then (if 0 ≤ x16 then (if x16 < (x135000.length : Int) then (if x16 < (x136000.length : Int) then ((zx.f k (xi x135000 x16) (xi x136000 x16)).bind fun t138 => (if t138 = true then (q9.l0 k x15 (wrap64 (x16 + 1)) x135000 x136000) else (some false))) else (none)) else (none)) else (none)) else (some true)
def q9.f (k : Nat) (l0_0 : List (List (S26))) (l1_0 : List (List (S26))) : Option (Bool) := if (l1_0.length : Int) > (l0_0.length : Int) then (some false) else (q9.l0 k (l1_0.length : Int) 0 l0_0 l1_0)
theorem q9.xu : ∀ k, (∀ y0 y1 y2 y3, LeO (q9.l0 k y0 y1 y2 y3) (q9.l0 (k + 1) y0 y1 y2 y3))
 | 0 => fun _ _ _ _ r h => by simp [q9.l0] at h
 | k + 1 => by
  have ih0 := q9.xu k
  ·intro y0 y1 y2 y3
   unfold q9.l0
   repeat' first
   | (with_reducible exact ih0 _ _ _ _)
   | (with_reducible exact zx.mono _ _ _)
   | (with_reducible exact LeO.refl _)
   | (with_reducible exact LeO.none _)
   | (with_reducible refine LeO.ite ?_ ?_)
   | (with_reducible refine LeO.bind ?_ (fun _ => ?_))
theorem q9.mono : ∀ a0 a1 k, LeO (q9.f k a0 a1) (q9.f (k + 1) a0 a1) := by
 intro a0 a1 k
 have ih0 := q9.xu k
 unfold q9.f
 repeat' first
   | (with_reducible exact ih0 _ _ _ _)
   | (with_reducible exact zx.mono _ _ _)
   | (with_reducible exact LeO.refl _)
   | (with_reducible exact LeO.none _)
   | (with_reducible refine LeO.ite ?_ ?_)
   | (with_reducible refine LeO.bind ?_ (fun _ => ?_))
def q9.T6 : Bool × List (List Nat × List Nat) := (true, [([], []), ([0], [0]), ([], []), ([1, 2], [1, 2]), ([3], [3]), ([], []), ([5], [5]), ([], []), ([6, 7], [6, 7]), ([8], [8]), ([4, 9], [4, 9]), ([10], [10])])
def q9.B6 : List Nat := [0, 1, 0, 7, 15, 0, 32, 0, 224, 480, 1023, 2047]
theorem q9.tab6 : rtab .any (opsOf Tryd.f17 6) = q9.T6 := by kernel_rfl
theorem q9.bits6 : waitsOk q9.T6.2 q9.B6 = true := by kernel_rfl
set_option maxHeartbeats 8000000 in
set_option maxRecDepth 100000 in
theorem q9.calls (k : Nat) (A0_0 : Option Addr) (c0_0 : Nat) (l0_0 : List (List (S26))) (A1_0 : Option Addr) (c1_0 : Nat) (l1_0 : List (List (S26))) (r : Bool) (w : World) (hr0_0 : Kd.C (Kd.slice 26 k26) w A0_0 l0_0.length l0_0) (hc0_0 : l0_0.length ≤ c0_0) (hr1_0 : Kd.C (Kd.slice 26 k26) w A1_0 l1_0.length l1_0) (hc1_0 : l1_0.length ≤ c1_0) (h : q9.f k l0_0 l1_0 = some r) :
  Calls Tryd.prog 17 #[.agg #[.slice A0_0 l0_0.length c0_0], .agg #[.slice A1_0 l1_0.length c1_0]] w fun e w' => e = .returned (.bool r) ∧ Below w.heap.size w w' := by
 have hu24 := Tryd.underlying24
 have HR0_0 := qa.mk hr0_0
 have HC0_0 := qa.mk hc0_0
 clear hr0_0 hc0_0
 have HR1_0 := qa.mk hr1_0
 have HC1_0 := qa.mk hc1_0
 clear hr1_0 hc1_0
 have HB := qa.mk (Below.refl w.heap.size w)
 have H : (if (l1_0.length : Int) > (l0_0.length : Int) then (some false) else (q9.l0 k (l1_0.length : Int) 0 l0_0 l1_0)) = some r := h
 clear h
 by_cases c3 : (l1_0.length : Int) > (l0_0.length : Int)
 ·rw [if_pos c3] at H
  have c3b0 : decide ((l0_0.length : Int) < (l1_0.length : Int)) = true := decide_eq_true c3
  have c3b1 : decide (l0_0.length < l1_0.length) = true := decide_eq_true (Int.ofNat_lt.mp c3)
  clear c3
  obtain rfl := Option.some.inj H
  go_enter Tryd.func17, Tryd.ntmps17
  go_wp2_with (first | ((with_reducible refine zd (N := 2) rfl ?_); refine zg ?hg (N := 2) ?hd (cs := #[.slice A0_0 l0_0.length c0_0]) (t := 24) ?hr ?_; (case hd => rfl); (case hg => rfl); (case hr => first | (go_simp; done) | (go_simp; rfl)); intro gb134 hg w4 hbox hb; have n0_ := qa.mk (qj (by repeat (first | (with_reducible first | exact HB.out | apply qc | apply qb | apply qd) | exact HB.out)) hb); have n1_ := qa.mk (hbox); have n2_ := qa.mk ((by rw [hg]; exact (qm (by repeat (first | (with_reducible first | exact HB.out | apply qc | apply qb | apply qd) | exact HB.out))) : w.heap.size ≤ gb134)); have n3_ := qa.mk ((by rw [hg]; exact (qm (by repeat (first | (with_reducible first | exact HB.out | apply qc | apply qb | apply qd) | exact HB.out))) : w.heap.size ≤ gb134)); clear HB; have HB := n0_; have BK134 := n1_; have GW134 := n2_; have GE134 := n3_; clear n0_ n1_ n2_ n3_; clear hb hbox hg) | ((with_reducible refine zd (N := 3) rfl ?_); refine zg ?hg (N := 3) ?hd (cs := #[.slice A1_0 l1_0.length c1_0]) (t := 24) ?hr ?_; (case hd => rfl); (case hg => rfl); (case hr => first | (go_simp; done) | (go_simp; rfl)); intro gb135 hg w5 hbox hb; have n0_ := qa.mk (qt (g := gb134) (o := .cells #[.slice A0_0 l0_0.length c0_0] 24 (0, 0)) (by (with_reducible repeat (first | refine qg ?_ _ | refine qh ?_ | refine qf ?_ _)); exact BK134.out) hb); have n1_ := qa.mk (qj (by repeat (first | (with_reducible first | exact HB.out | apply qc | apply qb | apply qd | refine qe ?_ GE134.out) | exact HB.out)) hb); have n2_ := qa.mk (hbox); have n3_ := qa.mk ((by rw [hg]; exact (qm (by repeat (first | (with_reducible first | exact HB.out | apply qc | apply qb | apply qd | refine qe ?_ GE134.out) | exact HB.out))) : w.heap.size ≤ gb135)); have n4_ := qa.mk ((by rw [hg]; exact (qm (by repeat (first | (with_reducible first | exact HB.out | apply qc | apply qb | apply qd | refine qe ?_ GE134.out) | exact HB.out))) : w.heap.size ≤ gb135)); have n5_ := qa.mk ((by rw [hg]; exact Nat.ne_of_lt (zl (g := gb134) (o := .cells #[.slice A0_0 l0_0.length c0_0] 24 (0, 0)) (by (with_reducible repeat (first | refine qg ?_ _ | refine qh ?_ | refine qf ?_ _)); exact BK134.out)) : gb134 ≠ gb135)); have n6_ := qa.mk ((by rw [hg]; exact Nat.ne_of_gt (zl (g := gb134) (o := .cells #[.slice A0_0 l0_0.length c0_0] 24 (0, 0)) (by (with_reducible repeat (first | refine qg ?_ _ | refine qh ?_ | refine qf ?_ _)); exact BK134.out)) : gb135 ≠ gb134)); clear BK134; clear HB; have BK134 := n0_; have HB := n1_; have BK135 := n2_; have GW135 := n3_; have GE135 := n4_; have NB134_135 := n5_; have NB135_134 := n6_; clear n0_ n1_ n2_ n3_ n4_ n5_ n6_; clear hb hbox hg; have hnb6 := NB135_134.out; have hnc6 := NB134_135.out; have hcz7_0 : w5.cell? ⟨gb135, 0, none⟩ = some (.slice A1_0 l1_0.length c1_0) := (qi BK135.out 0).trans rfl; have hfz7_0 := qk BK135.out 0; have hcz8_0 : w5.cell? ⟨gb134, 0, none⟩ = some (.slice A0_0 l0_0.length c0_0) := (qi BK134.out 0).trans rfl; have hfz8_0 := qk BK134.out 0))
  go_ret
  exact ⟨by first | rfl | (simp [qq, qp] <;> rfl) | (simp [*, qq, qp] <;> rfl), by repeat (first | (with_reducible first | exact HB.out | apply qc | apply qb | apply qd | refine qe ?_ GE134.out | refine qe ?_ GE135.out) | exact HB.out)⟩
 ·rw [if_neg c3] at H
  have c3b0 : decide ((l0_0.length : Int) < (l1_0.length : Int)) = false := decide_eq_false c3
  have c3b1 : decide (l0_0.length < l1_0.length) = false := decide_eq_false (fun h => c3 (Int.ofNat_lt.mpr h))
  clear c3
  have H' := qa.mk H
  clear H
  go_enter Tryd.func17, Tryd.ntmps17
  go_wp2_with (first | ((with_reducible refine zd (N := 2) rfl ?_); refine zg ?hg (N := 2) ?hd (cs := #[.slice A0_0 l0_0.length c0_0]) (t := 24) ?hr ?_; (case hd => rfl); (case hg => rfl); (case hr => first | (go_simp; done) | (go_simp; rfl)); intro gb134 hg w9 hbox hb; have n0_ := qa.mk (qj (by repeat (first | (with_reducible first | exact HB.out | apply qc | apply qb | apply qd) | exact HB.out)) hb); have n1_ := qa.mk (hbox); have n2_ := qa.mk ((by rw [hg]; exact (qm (by repeat (first | (with_reducible first | exact HB.out | apply qc | apply qb | apply qd) | exact HB.out))) : w.heap.size ≤ gb134)); have n3_ := qa.mk ((by rw [hg]; exact (qm (by repeat (first | (with_reducible first | exact HB.out | apply qc | apply qb | apply qd) | exact HB.out))) : w.heap.size ≤ gb134)); clear HB; have HB := n0_; have BK134 := n1_; have GW134 := n2_; have GE134 := n3_; clear n0_ n1_ n2_ n3_; clear hb hbox hg) | ((with_reducible refine zd (N := 3) rfl ?_); refine zg ?hg (N := 3) ?hd (cs := #[.slice A1_0 l1_0.length c1_0]) (t := 24) ?hr ?_; (case hd => rfl); (case hg => rfl); (case hr => first | (go_simp; done) | (go_simp; rfl)); intro gb135 hg w10 hbox hb; have n0_ := qa.mk (qt (g := gb134) (o := .cells #[.slice A0_0 l0_0.length c0_0] 24 (0, 0)) (by (with_reducible repeat (first | refine qg ?_ _ | refine qh ?_ | refine qf ?_ _)); exact BK134.out) hb); have n1_ := qa.mk (qj (by repeat (first | (with_reducible first | exact HB.out | apply qc | apply qb | apply qd | refine qe ?_ GE134.out) | exact HB.out)) hb); have n2_ := qa.mk (hbox); have n3_ := qa.mk ((by rw [hg]; exact (qm (by repeat (first | (with_reducible first | exact HB.out | apply qc | apply qb | apply qd | refine qe ?_ GE134.out) | exact HB.out))) : w.heap.size ≤ gb135)); have n4_ := qa.mk ((by rw [hg]; exact (qm (by repeat (first | (with_reducible first | exact HB.out | apply qc | apply qb | apply qd | refine qe ?_ GE134.out) | exact HB.out))) : w.heap.size ≤ gb135)); have n5_ := qa.mk ((by rw [hg]; exact Nat.ne_of_lt (zl (g := gb134) (o := .cells #[.slice A0_0 l0_0.length c0_0] 24 (0, 0)) (by (with_reducible repeat (first | refine qg ?_ _ | refine qh ?_ | refine qf ?_ _)); exact BK134.out)) : gb134 ≠ gb135)); have n6_ := qa.mk ((by rw [hg]; exact Nat.ne_of_gt (zl (g := gb134) (o := .cells #[.slice A0_0 l0_0.length c0_0] 24 (0, 0)) (by (with_reducible repeat (first | refine qg ?_ _ | refine qh ?_ | refine qf ?_ _)); exact BK134.out)) : gb135 ≠ gb134)); clear BK134; clear HB; have BK134 := n0_; have HB := n1_; have BK135 := n2_; have GW135 := n3_; have GE135 := n4_; have NB134_135 := n5_; have NB135_134 := n6_; clear n0_ n1_ n2_ n3_ n4_ n5_ n6_; clear hb hbox hg; have hnb11 := NB135_134.out; have hnc11 := NB134_135.out; have hcz12_0 : w10.cell? ⟨gb135, 0, none⟩ = some (.slice A1_0 l1_0.length c1_0) := (qi BK135.out 0).trans rfl; have hfz12_0 := qk BK135.out 0; have hcz13_0 : w10.cell? ⟨gb134, 0, none⟩ = some (.slice A0_0 l0_0.length c0_0) := (qi BK134.out 0).trans rfl; have hfz13_0 := qk BK134.out 0))
  go_loopg [16] k (fun kq v16 w' => ∃ (x16_1 : Int), v16 = .int .i64 x16_1 ∧ qa (q9.l0 kq (l1_0.length : Int) x16_1 l0_0 l1_0 = some r) ∧ qa (kq ≤ k) ∧ qa (w'.heap[gb134]? = some (.cells #[(.slice A0_0 l0_0.length c0_0)] 24 (0, 0))) ∧ qa (w'.heap[gb135]? = some (.cells #[(.slice A1_0 l1_0.length c1_0)] 24 (0, 0))) ∧ qa (Below w.heap.size w w'))
  case atStart => exact ⟨(0), (by first | rfl | (simp; done) | (simp [*]; done)), H', ⟨Nat.le_refl _⟩, ⟨by (with_reducible repeat (first | refine qg ?_ _ | refine qh ?_ | refine qf ?_ _)); exact BK134.out⟩, ⟨by (with_reducible repeat (first | refine qg ?_ _ | refine qh ?_ | refine qf ?_ _)); exact BK135.out⟩, ⟨by repeat (first | (with_reducible first | exact HB.out | apply qc | apply qb | apply qd | refine qe ?_ GE134.out | refine qe ?_ GE135.out) | exact HB.out)⟩⟩
  case round =>
   clear H'
   (try clear c1); (try clear p2); (try clear c3); (try clear c3b0); (try clear c3b1); (try clear c6); (try clear c11); (try clear hcz12_0); (try clear hcz13_0); (try clear hcz7_0); try clear hcz8_0
   (try clear hfz12_0); (try clear hfz13_0); (try clear hfz7_0); try clear hfz8_0
   obtain ⟨x16_1, rfl, HA, HK1, BK134, BK135, HB⟩ := hrel
   cases gk with
   | zero => exact absurd HA.out (by simp [q9.l0])
   | succ k1 =>
    have H := HA.out
    clear HA
    simp only [q9.l0] at H
    by_cases c14 : x16_1 < (l1_0.length : Int)
    ·rw [if_pos c14] at H
     have c14b0 : decide (x16_1 < (l1_0.length : Int)) = true := decide_eq_true c14
     clear c14
     by_cases c15 : 0 ≤ x16_1
     ·rw [if_pos c15] at H
      have c15b0 : decide (0 ≤ x16_1) = true := decide_eq_true c15
      clear c15
      by_cases c16 : x16_1 < (l0_0.length : Int)
      ·rw [if_pos c16] at H
       have c16b0 : decide (x16_1 < (l0_0.length : Int)) = true := decide_eq_true c16
       clear c16
       by_cases c17 : x16_1 < (l1_0.length : Int)
       ·rw [if_pos c17] at H
        have c17b0 : decide (x16_1 < (l1_0.length : Int)) = true := decide_eq_true c17
        clear c17
        replace H := Option.bind_eq_some_iff.mp H
        obtain ⟨t138, A180, H⟩ := H
        replace H : (if t138 = true then (q9.l0 k1 (l1_0.length : Int) (wrap64 (x16_1 + 1)) l0_0 l1_0) else (some false)) = some r := H
        have A18 := qa.mk A180
        clear A180
        by_cases c19 : t138 = true
        ·subst c19
         have H1 : (q9.l0 k1 (l1_0.length : Int) (wrap64 (x16_1 + 1)) l0_0 l1_0) = some r := by rw [if_pos rfl] at H; exact H
         clear H
         have H := H1
         clear H1
         have H' := qa.mk H
         clear H
         try go_wp2
         have n0_ := qa.mk (qh BK134.out)
         have n1_ := qa.mk (qh BK135.out)
         have n2_ := qa.mk (qd HB.out)
         clear BK134
         clear BK135
         clear HB
         have BK134 := n0_
         have BK135 := n1_
         have HB := n2_
         clear n0_ n1_ n2_
         have p136 : 0 ≤ (x16_1 : Int) := of_decide_eq_true (by first | (with_reducible assumption) | assumption)
         have q136 : x16_1 < (l0_0.length : Int) := of_decide_eq_true (by first | (with_reducible assumption) | assumption)
         obtain ⟨ad136, A136_0, c136_0, e136, hx136_0, hl136_0, hi136_0⟩ := at_L4 HR0_0.out x16_1 p136 q136
         have hw136_0 := hx136_0
         cases e136
         replace hx136_0 := (HB.out.cell (World.block_lt_of_cell? w _ hx136_0)).trans hx136_0
         have HR136_0 := qa.mk hi136_0
         have HC136_0 := qa.mk hl136_0
         clear hi136_0 hl136_0
         replace p136 := eq_true p136
         replace q136 := eq_true q136
         have p137 : 0 ≤ (x16_1 : Int) := of_decide_eq_true (by first | (with_reducible assumption) | assumption)
         have q137 : x16_1 < (l1_0.length : Int) := of_decide_eq_true (by first | (with_reducible assumption) | assumption)
         obtain ⟨ad137, A137_0, c137_0, e137, hx137_0, hl137_0, hi137_0⟩ := at_L4 HR1_0.out x16_1 p137 q137
         have hw137_0 := hx137_0
         cases e137
         replace hx137_0 := (HB.out.cell (World.block_lt_of_cell? w _ hx137_0)).trans hx137_0
         have HR137_0 := qa.mk hi137_0
         have HC137_0 := qa.mk hl137_0
         clear hi137_0 hl137_0
         replace p137 := eq_true p137
         replace q137 := eq_true q137
         refine start_ (n := 12) (S := fun w' => w'.cell? ⟨gb134, 0, none⟩ = some (.slice (some ad136) l0_0.length c0_0) ∧ w'.cell? ⟨gb135, 0, none⟩ = some (.slice (some ad137) l1_0.length c1_0) ∧ w'.cell? (ad136.add (x16_1).toNat) = some (.slice A136_0 (xi l0_0 x16_1).length c136_0) ∧ w'.cell? (ad137.add (x16_1).toNat) = some (.slice A137_0 (xi l1_0 x16_1).length c137_0)) (ds := []) #[false, false, false, false, false, false, false, false, false, false, false, false] (by kernel_rfl) rfl rfl ⟨(qi BK134.out 0).trans rfl, (qi BK135.out 0).trans rfl, ((HB.out.cell (World.block_lt_of_cell? w _ hw136_0)).trans hw136_0), ((HB.out.cell (World.block_lt_of_cell? w _ hw137_0)).trans hw137_0)⟩ (fun hHeld => ?_); refine k8 q9.tab6 q9.bits6 (fun HT_ HW_ => ?_)
         generalize wr.drew = w20 at BK134 BK135 HB HR136_0 HR137_0 hx136_0 hx137_0 hHeld ⊢
         refine zt (i := 0) (N := some 19) (v := ?_) (a' := ?_) #[true, false, false, false, false, false, false, false, false, false, false, false] rfl rfl (zc HT_.out (by kernel_rfl)) (fun _ _ _ h => h) (Or.inl ⟨by rfl, ?_⟩) ?_ ?_
         rotate_left
         ·intro w'
          go_simp
          with_reducible rfl
         rotate_left
         ·simp only [Act.put, List.setIfInBounds_toArray, List.set_cons_zero, List.set_cons_succ, qy, qz]
          rfl
         refine zt (i := 2) (N := some 21) (v := ?_) (a' := ?_) #[true, false, true, false, false, false, false, false, false, false, false, false] rfl rfl (zc HT_.out (by kernel_rfl)) (fun _ _ _ h => h) (Or.inl ⟨by rfl, ?_⟩) ?_ ?_
         rotate_left
         ·intro w'
          go_simp
          with_reducible rfl
         rotate_left
         ·simp only [Act.put, List.setIfInBounds_toArray, List.set_cons_zero, List.set_cons_succ, qy, qz]
          rfl
         refine zt (i := 5) (N := some 24) (v := ?_) (a' := ?_) #[true, false, true, false, false, true, false, false, false, false, false, false] rfl rfl (zc HT_.out (by kernel_rfl)) (fun _ _ _ h => h) (Or.inl ⟨by rfl, ?_⟩) ?_ ?_
         rotate_left
         ·intro w'
          go_simp
          with_reducible rfl
         rotate_left
         ·simp only [Act.put, List.setIfInBounds_toArray, List.set_cons_zero, List.set_cons_succ, qy, qz]
          rfl
         refine zt (i := 7) (N := some 26) (v := ?_) (a' := ?_) #[true, false, true, false, false, true, false, true, false, false, false, false] rfl rfl (zc HT_.out (by kernel_rfl)) (fun _ _ _ h => h) (Or.inl ⟨by rfl, ?_⟩) ?_ ?_
         rotate_left
         ·intro w'
          go_simp
          with_reducible rfl
         rotate_left
         ·simp only [Act.put, List.setIfInBounds_toArray, List.set_cons_zero, List.set_cons_succ, qy, qz]
          rfl
         refine xm (i := 1) (N := some 20) (v := ?_) (a' := ?_) #[true, true, true, false, false, true, false, true, false, false, false, false] rfl rfl (zj HT_.out HW_.out (by kernel_rfl)) (fun _ _ _ h => h) (Or.inl ⟨by rfl, ?_⟩) hHeld ?_ ?_
         rotate_left
         ·rintro w' ⟨s0, s1, s2, s3⟩
          go_simp
          with_reducible rfl
         rotate_left
         ·simp only [Act.put, List.setIfInBounds_toArray, List.set_cons_zero, List.set_cons_succ, qy, qz]
          rfl
         refine zt (i := 3) (N := some 22) (v := ?_) (a' := ?_) #[true, true, true, true, false, true, false, true, false, false, false, false] rfl rfl (zc HT_.out (by kernel_rfl)) (fun _ _ _ h => h) (Or.inl ⟨by rfl, ?_⟩) ?_ ?_
         rotate_left
         ·intro w'
          go_simp
          with_reducible rfl
         rotate_left
         ·simp only [Act.put, List.setIfInBounds_toArray, List.set_cons_zero, List.set_cons_succ, qy, qz]
          rfl
         refine xm (i := 4) (N := some 23) (v := ?_) (a' := ?_) #[true, true, true, true, true, true, false, true, false, false, false, false] rfl rfl (zj HT_.out HW_.out (by kernel_rfl)) (fun _ _ _ h => h) (Or.inl ⟨by rfl, ?_⟩) hHeld ?_ ?_
         rotate_left
         ·rintro w' ⟨s0, s1, s2, s3⟩
          go_simp
          with_reducible rfl
         rotate_left
         ·simp only [Act.put, List.setIfInBounds_toArray, List.set_cons_zero, List.set_cons_succ, qy, qz]
          rfl
         refine xm (i := 6) (N := some 25) (v := ?_) (a' := ?_) #[true, true, true, true, true, true, true, true, false, false, false, false] rfl rfl (zj HT_.out HW_.out (by kernel_rfl)) (fun _ _ _ h => h) (Or.inl ⟨by rfl, ?_⟩) hHeld ?_ ?_
         rotate_left
         ·rintro w' ⟨s0, s1, s2, s3⟩
          go_simp
          with_reducible rfl
         rotate_left
         ·simp only [Act.put, List.setIfInBounds_toArray, List.set_cons_zero, List.set_cons_succ, qy, qz]
          rfl
         refine zt (i := 8) (N := some 27) (v := ?_) (a' := ?_) #[true, true, true, true, true, true, true, true, true, false, false, false] rfl rfl (zc HT_.out (by kernel_rfl)) (fun _ _ _ h => h) (Or.inl ⟨by rfl, ?_⟩) ?_ ?_
         rotate_left
         ·intro w'
          go_simp
          with_reducible rfl
         rotate_left
         ·simp only [Act.put, List.setIfInBounds_toArray, List.set_cons_zero, List.set_cons_succ, qy, qz]
          rfl
         refine xm (i := 9) (N := some 28) (v := ?_) (a' := ?_) #[true, true, true, true, true, true, true, true, true, true, false, false] rfl rfl (zj HT_.out HW_.out (by kernel_rfl)) (fun _ _ _ h => h) (Or.inl ⟨by rfl, ?_⟩) hHeld ?_ ?_
         rotate_left
         ·rintro w' ⟨s0, s1, s2, s3⟩
          go_simp
          with_reducible rfl
         rotate_left
         ·simp only [Act.put, List.setIfInBounds_toArray, List.set_cons_zero, List.set_cons_succ, qy, qz]
          rfl
         refine one_ (i := 10) (N := some 29) #[true, true, true, true, true, true, true, true, true, true, true, false] rfl rfl (kj HT_.out (by kernel_rfl)) (by decide) (fun K hK => ?_)
         refine k7 Tryd.func24 (by kernel_rfl) rfl #[.slice A136_0 (xi l0_0 x16_1).length c136_0, .slice A137_0 (xi l1_0 x16_1).length c137_0] (by rfl) rfl rfl (by (try simp only [List.map_toArray, List.map_cons, List.map_nil]); first | done | rfl | (simp only [List.length_drop, List.length_take]; rfl)) ?_
         with_reducible refine (zx.calls k1 _ _ (xi l0_0 x16_1) _ _ (xi l1_0 x16_1) true _ ?side1 ?side2 ?side3 ?side4 A18.out).mono ?_
         (case side1 => repeat (first | exact (Kd.xc HR136_0.out HB.out) | (with_reducible refine Kd.ke ?_ _) | (with_reducible refine Kd.kf ?_ _) | (with_reducible refine Kd.ks ?_)))
         (case side2 => exact HC136_0.out)
         (case side3 => repeat (first | exact (Kd.xc HR137_0.out HB.out) | (with_reducible refine Kd.ke ?_ _) | (with_reducible refine Kd.kf ?_ _) | (with_reducible refine Kd.ks ?_)))
         (case side4 => exact HC137_0.out)
         rintro e w21 ⟨rfl, hb⟩
         refine ⟨_, rfl, ?_⟩
         have n0_ := qa.mk (qt (g := gb134) (o := .cells #[.slice (some ad136) l0_0.length c0_0] 24 (0, 0)) (by (with_reducible repeat (first | refine qg ?_ _ | refine qh ?_ | refine qf ?_ _)); exact BK134.out) hb)
         have n1_ := qa.mk (qt (g := gb135) (o := .cells #[.slice (some ad137) l1_0.length c1_0] 24 (0, 0)) (by (with_reducible repeat (first | refine qg ?_ _ | refine qh ?_ | refine qf ?_ _)); exact BK135.out) hb)
         have n2_ := qa.mk (qj (by repeat (first | (with_reducible first | exact HB.out | apply qc | apply qb | apply qd | refine qe ?_ GE134.out | refine qe ?_ GE135.out) | exact HB.out)) hb)
         clear BK134
         clear BK135
         clear HB
         have BK134 := n0_
         have BK135 := n1_
         have HB := n2_
         clear n0_ n1_ n2_
         (try clear hb)
         (try clear hb2)
         (try clear hk)
         (try clear hi)
         refine hK.out _ _ ⟨(qi BK134.out 0).trans rfl, (qi BK135.out 0).trans rfl, ((HB.out.cell (World.block_lt_of_cell? w _ hw136_0)).trans hw136_0), ((HB.out.cell (World.block_lt_of_cell? w _ hw137_0)).trans hw137_0)⟩ (fun hHeld => ?_)
         clear hK K
         refine kw (a' := ?_) ?_ ?_
         rotate_left
         ·show Act.put _ (some 29) _ = _
          simp only [Act.put, List.setIfInBounds_toArray, List.set_cons_zero, List.set_cons_succ, qy, qz]
          rfl
         refine zt (i := 11) (N := some 30) (v := ?_) (a' := ?_) #[true, true, true, true, true, true, true, true, true, true, true, true] rfl rfl (zc HT_.out (by kernel_rfl)) (fun _ _ _ h => h) (Or.inl ⟨by rfl, ?_⟩) ?_ ?_
         rotate_left
         ·intro w'
          go_simp
          with_reducible rfl
         rotate_left
         ·simp only [Act.put, List.setIfInBounds_toArray, List.set_cons_zero, List.set_cons_succ, qy, qz]
          rfl
         refine done_ (done_of HT_.out (by kernel_rfl)) ?_
         try go_wp2
         go_roundg k1
         case measure => have := HK1.out; omega
         case rel => exact ⟨(wrap64 (x16_1 + 1)), (by first | rfl | (simp; done) | (simp [*]; done)), H', ⟨by have := HK1.out; omega⟩, ⟨by (with_reducible repeat (first | refine qg ?_ _ | refine qh ?_ | refine qf ?_ _)); exact BK134.out⟩, ⟨by (with_reducible repeat (first | refine qg ?_ _ | refine qh ?_ | refine qf ?_ _)); exact BK135.out⟩, ⟨by repeat (first | (with_reducible first | exact HB.out | apply qc | apply qb | apply qd | refine qe ?_ GE134.out | refine qe ?_ GE135.out) | exact HB.out)⟩⟩
        ·replace c19 := Bool.eq_false_iff.mpr c19
         subst c19
         have H1 : (some false) = some r := by rw [if_neg (show ¬ (false = true) by decide)] at H; exact H
         clear H
         have H := H1
         clear H1
         obtain rfl := Option.some.inj H
         try go_wp2
         have n0_ := qa.mk (qh BK134.out)
         have n1_ := qa.mk (qh BK135.out)
         have n2_ := qa.mk (qd HB.out)
         clear BK134
         clear BK135
         clear HB
         have BK134 := n0_
         have BK135 := n1_
         have HB := n2_
         clear n0_ n1_ n2_
         have p136 : 0 ≤ (x16_1 : Int) := of_decide_eq_true (by first | (with_reducible assumption) | assumption)
         have q136 : x16_1 < (l0_0.length : Int) := of_decide_eq_true (by first | (with_reducible assumption) | assumption)
         obtain ⟨ad136, A136_0, c136_0, e136, hx136_0, hl136_0, hi136_0⟩ := at_L4 HR0_0.out x16_1 p136 q136
         have hw136_0 := hx136_0
         cases e136
         replace hx136_0 := (HB.out.cell (World.block_lt_of_cell? w _ hx136_0)).trans hx136_0
         have HR136_0 := qa.mk hi136_0
         have HC136_0 := qa.mk hl136_0
         clear hi136_0 hl136_0
         replace p136 := eq_true p136
         replace q136 := eq_true q136
         have p137 : 0 ≤ (x16_1 : Int) := of_decide_eq_true (by first | (with_reducible assumption) | assumption)
         have q137 : x16_1 < (l1_0.length : Int) := of_decide_eq_true (by first | (with_reducible assumption) | assumption)
         obtain ⟨ad137, A137_0, c137_0, e137, hx137_0, hl137_0, hi137_0⟩ := at_L4 HR1_0.out x16_1 p137 q137
         have hw137_0 := hx137_0
         cases e137
         replace hx137_0 := (HB.out.cell (World.block_lt_of_cell? w _ hx137_0)).trans hx137_0
         have HR137_0 := qa.mk hi137_0
         have HC137_0 := qa.mk hl137_0
         clear hi137_0 hl137_0
         replace p137 := eq_true p137
         replace q137 := eq_true q137
         refine start_ (n := 12) (S := fun w' => w'.cell? ⟨gb134, 0, none⟩ = some (.slice (some ad136) l0_0.length c0_0) ∧ w'.cell? ⟨gb135, 0, none⟩ = some (.slice (some ad137) l1_0.length c1_0) ∧ w'.cell? (ad136.add (x16_1).toNat) = some (.slice A136_0 (xi l0_0 x16_1).length c136_0) ∧ w'.cell? (ad137.add (x16_1).toNat) = some (.slice A137_0 (xi l1_0 x16_1).length c137_0)) (ds := []) #[false, false, false, false, false, false, false, false, false, false, false, false] (by kernel_rfl) rfl rfl ⟨(qi BK134.out 0).trans rfl, (qi BK135.out 0).trans rfl, ((HB.out.cell (World.block_lt_of_cell? w _ hw136_0)).trans hw136_0), ((HB.out.cell (World.block_lt_of_cell? w _ hw137_0)).trans hw137_0)⟩ (fun hHeld => ?_); refine k8 q9.tab6 q9.bits6 (fun HT_ HW_ => ?_)
         generalize wr.drew = w22 at BK134 BK135 HB HR136_0 HR137_0 hx136_0 hx137_0 hHeld ⊢
         refine zt (i := 0) (N := some 19) (v := ?_) (a' := ?_) #[true, false, false, false, false, false, false, false, false, false, false, false] rfl rfl (zc HT_.out (by kernel_rfl)) (fun _ _ _ h => h) (Or.inl ⟨by rfl, ?_⟩) ?_ ?_
         rotate_left
         ·intro w'
          go_simp
          with_reducible rfl
         rotate_left
         ·simp only [Act.put, List.setIfInBounds_toArray, List.set_cons_zero, List.set_cons_succ, qy, qz]
          rfl
         refine zt (i := 2) (N := some 21) (v := ?_) (a' := ?_) #[true, false, true, false, false, false, false, false, false, false, false, false] rfl rfl (zc HT_.out (by kernel_rfl)) (fun _ _ _ h => h) (Or.inl ⟨by rfl, ?_⟩) ?_ ?_
         rotate_left
         ·intro w'
          go_simp
          with_reducible rfl
         rotate_left
         ·simp only [Act.put, List.setIfInBounds_toArray, List.set_cons_zero, List.set_cons_succ, qy, qz]
          rfl
         refine zt (i := 5) (N := some 24) (v := ?_) (a' := ?_) #[true, false, true, false, false, true, false, false, false, false, false, false] rfl rfl (zc HT_.out (by kernel_rfl)) (fun _ _ _ h => h) (Or.inl ⟨by rfl, ?_⟩) ?_ ?_
         rotate_left
         ·intro w'
          go_simp
          with_reducible rfl
         rotate_left
         ·simp only [Act.put, List.setIfInBounds_toArray, List.set_cons_zero, List.set_cons_succ, qy, qz]
          rfl
         refine zt (i := 7) (N := some 26) (v := ?_) (a' := ?_) #[true, false, true, false, false, true, false, true, false, false, false, false] rfl rfl (zc HT_.out (by kernel_rfl)) (fun _ _ _ h => h) (Or.inl ⟨by rfl, ?_⟩) ?_ ?_
         rotate_left
         ·intro w'
          go_simp
          with_reducible rfl
         rotate_left
         ·simp only [Act.put, List.setIfInBounds_toArray, List.set_cons_zero, List.set_cons_succ, qy, qz]
          rfl
         refine xm (i := 1) (N := some 20) (v := ?_) (a' := ?_) #[true, true, true, false, false, true, false, true, false, false, false, false] rfl rfl (zj HT_.out HW_.out (by kernel_rfl)) (fun _ _ _ h => h) (Or.inl ⟨by rfl, ?_⟩) hHeld ?_ ?_
         rotate_left
         ·rintro w' ⟨s0, s1, s2, s3⟩
          go_simp
          with_reducible rfl
         rotate_left
         ·simp only [Act.put, List.setIfInBounds_toArray, List.set_cons_zero, List.set_cons_succ, qy, qz]
          rfl
         refine zt (i := 3) (N := some 22) (v := ?_) (a' := ?_) #[true, true, true, true, false, true, false, true, false, false, false, false] rfl rfl (zc HT_.out (by kernel_rfl)) (fun _ _ _ h => h) (Or.inl ⟨by rfl, ?_⟩) ?_ ?_
         rotate_left
         ·intro w'
          go_simp
          with_reducible rfl
         rotate_left
         ·simp only [Act.put, List.setIfInBounds_toArray, List.set_cons_zero, List.set_cons_succ, qy, qz]
          rfl
         refine xm (i := 4) (N := some 23) (v := ?_) (a' := ?_) #[true, true, true, true, true, true, false, true, false, false, false, false] rfl rfl (zj HT_.out HW_.out (by kernel_rfl)) (fun _ _ _ h => h) (Or.inl ⟨by rfl, ?_⟩) hHeld ?_ ?_
         rotate_left
         ·rintro w' ⟨s0, s1, s2, s3⟩
          go_simp
          with_reducible rfl
         rotate_left
         ·simp only [Act.put, List.setIfInBounds_toArray, List.set_cons_zero, List.set_cons_succ, qy, qz]
          rfl
         refine xm (i := 6) (N := some 25) (v := ?_) (a' := ?_) #[true, true, true, true, true, true, true, true, false, false, false, false] rfl rfl (zj HT_.out HW_.out (by kernel_rfl)) (fun _ _ _ h => h) (Or.inl ⟨by rfl, ?_⟩) hHeld ?_ ?_
         rotate_left
         ·rintro w' ⟨s0, s1, s2, s3⟩
          go_simp
          with_reducible rfl
         rotate_left
         ·simp only [Act.put, List.setIfInBounds_toArray, List.set_cons_zero, List.set_cons_succ, qy, qz]
          rfl
         refine zt (i := 8) (N := some 27) (v := ?_) (a' := ?_) #[true, true, true, true, true, true, true, true, true, false, false, false] rfl rfl (zc HT_.out (by kernel_rfl)) (fun _ _ _ h => h) (Or.inl ⟨by rfl, ?_⟩) ?_ ?_
         rotate_left
         ·intro w'
          go_simp
          with_reducible rfl
         rotate_left
         ·simp only [Act.put, List.setIfInBounds_toArray, List.set_cons_zero, List.set_cons_succ, qy, qz]
          rfl
         refine xm (i := 9) (N := some 28) (v := ?_) (a' := ?_) #[true, true, true, true, true, true, true, true, true, true, false, false] rfl rfl (zj HT_.out HW_.out (by kernel_rfl)) (fun _ _ _ h => h) (Or.inl ⟨by rfl, ?_⟩) hHeld ?_ ?_
         rotate_left
         ·rintro w' ⟨s0, s1, s2, s3⟩
          go_simp
          with_reducible rfl
         rotate_left
         ·simp only [Act.put, List.setIfInBounds_toArray, List.set_cons_zero, List.set_cons_succ, qy, qz]
          rfl
         refine one_ (i := 10) (N := some 29) #[true, true, true, true, true, true, true, true, true, true, true, false] rfl rfl (kj HT_.out (by kernel_rfl)) (by decide) (fun K hK => ?_)
         refine k7 Tryd.func24 (by kernel_rfl) rfl #[.slice A136_0 (xi l0_0 x16_1).length c136_0, .slice A137_0 (xi l1_0 x16_1).length c137_0] (by rfl) rfl rfl (by (try simp only [List.map_toArray, List.map_cons, List.map_nil]); first | done | rfl | (simp only [List.length_drop, List.length_take]; rfl)) ?_
         with_reducible refine (zx.calls k1 _ _ (xi l0_0 x16_1) _ _ (xi l1_0 x16_1) false _ ?side1 ?side2 ?side3 ?side4 A18.out).mono ?_
         (case side1 => repeat (first | exact (Kd.xc HR136_0.out HB.out) | (with_reducible refine Kd.ke ?_ _) | (with_reducible refine Kd.kf ?_ _) | (with_reducible refine Kd.ks ?_)))
         (case side2 => exact HC136_0.out)
         (case side3 => repeat (first | exact (Kd.xc HR137_0.out HB.out) | (with_reducible refine Kd.ke ?_ _) | (with_reducible refine Kd.kf ?_ _) | (with_reducible refine Kd.ks ?_)))
         (case side4 => exact HC137_0.out)
         rintro e w23 ⟨rfl, hb⟩
         refine ⟨_, rfl, ?_⟩
         have n0_ := qa.mk (qt (g := gb134) (o := .cells #[.slice (some ad136) l0_0.length c0_0] 24 (0, 0)) (by (with_reducible repeat (first | refine qg ?_ _ | refine qh ?_ | refine qf ?_ _)); exact BK134.out) hb)
         have n1_ := qa.mk (qt (g := gb135) (o := .cells #[.slice (some ad137) l1_0.length c1_0] 24 (0, 0)) (by (with_reducible repeat (first | refine qg ?_ _ | refine qh ?_ | refine qf ?_ _)); exact BK135.out) hb)
         have n2_ := qa.mk (qj (by repeat (first | (with_reducible first | exact HB.out | apply qc | apply qb | apply qd | refine qe ?_ GE134.out | refine qe ?_ GE135.out) | exact HB.out)) hb)
         clear BK134
         clear BK135
         clear HB
         have BK134 := n0_
         have BK135 := n1_
         have HB := n2_
         clear n0_ n1_ n2_
         (try clear hb)
         (try clear hb2)
         (try clear hk)
         (try clear hi)
         refine hK.out _ _ ⟨(qi BK134.out 0).trans rfl, (qi BK135.out 0).trans rfl, ((HB.out.cell (World.block_lt_of_cell? w _ hw136_0)).trans hw136_0), ((HB.out.cell (World.block_lt_of_cell? w _ hw137_0)).trans hw137_0)⟩ (fun hHeld => ?_)
         clear hK K
         refine kw (a' := ?_) ?_ ?_
         rotate_left
         ·show Act.put _ (some 29) _ = _
          simp only [Act.put, List.setIfInBounds_toArray, List.set_cons_zero, List.set_cons_succ, qy, qz]
          rfl
         refine zt (i := 11) (N := some 30) (v := ?_) (a' := ?_) #[true, true, true, true, true, true, true, true, true, true, true, true] rfl rfl (zc HT_.out (by kernel_rfl)) (fun _ _ _ h => h) (Or.inl ⟨by rfl, ?_⟩) ?_ ?_
         rotate_left
         ·intro w'
          go_simp
          with_reducible rfl
         rotate_left
         ·simp only [Act.put, List.setIfInBounds_toArray, List.set_cons_zero, List.set_cons_succ, qy, qz]
          rfl
         refine done_ (done_of HT_.out (by kernel_rfl)) ?_
         try go_wp2
         go_ret
         exact ⟨by first | rfl | (simp [qq, qp] <;> rfl) | (simp [*, qq, qp] <;> rfl), by repeat (first | (with_reducible first | exact HB.out | apply qc | apply qb | apply qd | refine qe ?_ GE134.out | refine qe ?_ GE135.out) | exact HB.out)⟩
       ·rw [if_neg c17] at H
        exact absurd H (by simp)
      ·rw [if_neg c16] at H
       exact absurd H (by simp)
     ·rw [if_neg c15] at H
      exact absurd H (by simp)
    ·rw [if_neg c14] at H
     have c14b0 : decide (x16_1 < (l1_0.length : Int)) = false := decide_eq_false c14
     clear c14
     obtain rfl := Option.some.inj H
     go_wp2
     go_ret
     exact ⟨by first | rfl | (simp [qq, qp] <;> rfl) | (simp [*, qq, qp] <;> rfl), by repeat (first | (with_reducible first | exact HB.out | apply qc | apply qb | apply qd | refine qe ?_ GE134.out | refine qe ?_ GE135.out) | exact HB.out)⟩
end Go.Proofs.YtjhlinifnjoefaaDoor.C
end
section
namespace Go.Proofs.YtjhlinifnjoefaaDoor.C
open Go.RowKit Go.Proofs.YtjhlinifnjoefaaDoorW.PrintWords Go.Proofs.YtjhlinifnjoefaaDoorW.PrintLast Go.Proofs.YtjhlinifnjoefaaDoorW.PrintMore
attribute [local go_sem] xr xp xw xx xf xe xq xo
set_option linter.unusedVariables false
set_option linter.unusedSimpArgs false
def xj.f (k : Nat) (l0_0 : List (List (S26))) (l1_0 : List (List (S26))) : Option (Bool) := if (l0_0.length : Int) = (l1_0.length : Int) then ((q9.f k l0_0 l1_0).bind fun t141 => (some t141)) else (some false)
theorem xj.mono : ∀ a0 a1 k, LeO (xj.f k a0 a1) (xj.f (k + 1) a0 a1) := by
 intro a0 a1 k
 unfold xj.f
 repeat' first
   | (with_reducible exact q9.mono _ _ _)
   | (with_reducible exact LeO.refl _)
   | (with_reducible exact LeO.none _)
   | (with_reducible refine LeO.ite ?_ ?_)
   | (with_reducible refine LeO.bind ?_ (fun _ => ?_))
set_option maxHeartbeats 8000000 in
set_option maxRecDepth 100000 in
theorem xj.calls (k : Nat) (A0_0 : Option Addr) (c0_0 : Nat) (l0_0 : List (List (S26))) (A1_0 : Option Addr) (c1_0 : Nat) (l1_0 : List (List (S26))) (r : Bool) (w : World) (hr0_0 : Kd.C (Kd.slice 26 k26) w A0_0 l0_0.length l0_0) (hc0_0 : l0_0.length ≤ c0_0) (hr1_0 : Kd.C (Kd.slice 26 k26) w A1_0 l1_0.length l1_0) (hc1_0 : l1_0.length ≤ c1_0) (h : xj.f k l0_0 l1_0 = some r) :
  Calls Tryd.prog 15 #[.agg #[.slice A0_0 l0_0.length c0_0], .agg #[.slice A1_0 l1_0.length c1_0]] w fun e w' => e = .returned (.bool r) ∧ Below w.heap.size w w' := by
 have hu24 := Tryd.underlying24
 have HR0_0 := qa.mk hr0_0
 have HC0_0 := qa.mk hc0_0
 clear hr0_0 hc0_0
 have HR1_0 := qa.mk hr1_0
 have HC1_0 := qa.mk hc1_0
 clear hr1_0 hc1_0
 have HB := qa.mk (Below.refl w.heap.size w)
 have H : (if (l0_0.length : Int) = (l1_0.length : Int) then ((q9.f k l0_0 l1_0).bind fun t141 => (some t141)) else (some false)) = some r := h
 clear h
 by_cases c3 : (l0_0.length : Int) = (l1_0.length : Int)
 ·rw [if_pos c3] at H
  have c3b0 : ((l0_0.length : Int) == (l1_0.length : Int)) = true := beq_iff_eq.mpr c3
  have c3b1 : ((l0_0.length : Int) != (l1_0.length : Int)) = false := bne_eq_false_iff_eq.mpr c3
  have c3b2 : (l0_0.length == l1_0.length) = true := by first | simpa using c3 | (simp at c3 ⊢; omega)
  clear c3
  replace H := Option.bind_eq_some_iff.mp H
  obtain ⟨t141, A40, H⟩ := H
  replace H : (some t141) = some r := H
  have A4 := qa.mk A40
  clear A40
  obtain rfl := Option.some.inj H
  go_enter Tryd.func15, Tryd.ntmps15
  go_wp2_with (first | ((with_reducible refine zd (N := 2) rfl ?_); refine zg ?hg (N := 2) ?hd (cs := #[.slice A0_0 l0_0.length c0_0]) (t := 24) ?hr ?_; (case hd => rfl); (case hg => rfl); (case hr => first | (go_simp; done) | (go_simp; rfl)); intro gb139 hg w5 hbox hb; have n0_ := qa.mk (qj (by repeat (first | (with_reducible first | exact HB.out | apply qc | apply qb | apply qd) | exact HB.out)) hb); have n1_ := qa.mk (hbox); have n2_ := qa.mk ((by rw [hg]; exact (qm (by repeat (first | (with_reducible first | exact HB.out | apply qc | apply qb | apply qd) | exact HB.out))) : w.heap.size ≤ gb139)); have n3_ := qa.mk ((by rw [hg]; exact (qm (by repeat (first | (with_reducible first | exact HB.out | apply qc | apply qb | apply qd) | exact HB.out))) : w.heap.size ≤ gb139)); clear HB; have HB := n0_; have BK139 := n1_; have GW139 := n2_; have GE139 := n3_; clear n0_ n1_ n2_ n3_; clear hb hbox hg) | ((with_reducible refine zd (N := 3) rfl ?_); refine zg ?hg (N := 3) ?hd (cs := #[.slice A1_0 l1_0.length c1_0]) (t := 24) ?hr ?_; (case hd => rfl); (case hg => rfl); (case hr => first | (go_simp; done) | (go_simp; rfl)); intro gb140 hg w6 hbox hb; have n0_ := qa.mk (qt (g := gb139) (o := .cells #[.slice A0_0 l0_0.length c0_0] 24 (0, 0)) (by (with_reducible repeat (first | refine qg ?_ _ | refine qh ?_ | refine qf ?_ _)); exact BK139.out) hb); have n1_ := qa.mk (qj (by repeat (first | (with_reducible first | exact HB.out | apply qc | apply qb | apply qd | refine qe ?_ GE139.out) | exact HB.out)) hb); have n2_ := qa.mk (hbox); have n3_ := qa.mk ((by rw [hg]; exact (qm (by repeat (first | (with_reducible first | exact HB.out | apply qc | apply qb | apply qd | refine qe ?_ GE139.out) | exact HB.out))) : w.heap.size ≤ gb140)); have n4_ := qa.mk ((by rw [hg]; exact (qm (by repeat (first | (with_reducible first | exact HB.out | apply qc | apply qb | apply qd | refine qe ?_ GE139.out) | exact HB.out))) : w.heap.size ≤ gb140)); have n5_ := qa.mk ((by rw [hg]; exact Nat.ne_of_lt (zl (g := gb139) (o := .cells #[.slice A0_0 l0_0.length c0_0] 24 (0, 0)) (by (with_reducible repeat (first | refine qg ?_ _ | refine qh ?_ | refine qf ?_ _)); exact BK139.out)) : gb139 ≠ gb140)); have n6_ := qa.mk ((by rw [hg]; exact Nat.ne_of_gt (zl (g := gb139) (o := .cells #[.slice A0_0 l0_0.length c0_0] 24 (0, 0)) (by (with_reducible repeat (first | refine qg ?_ _ | refine qh ?_ | refine qf ?_ _)); exact BK139.out)) : gb140 ≠ gb139)); clear BK139; clear HB; have BK139 := n0_; have HB := n1_; have BK140 := n2_; have GW140 := n3_; have GE140 := n4_; have NB139_140 := n5_; have NB140_139 := n6_; clear n0_ n1_ n2_ n3_ n4_ n5_ n6_; clear hb hbox hg; have hnb7 := NB139_140.out; have hnc7 := NB140_139.out; have hcz8_0 : w6.cell? ⟨gb139, 0, none⟩ = some (.slice A0_0 l0_0.length c0_0) := (qi BK139.out 0).trans rfl; have hfz8_0 := qk BK139.out 0; have hcz9_0 : w6.cell? ⟨gb140, 0, none⟩ = some (.slice A1_0 l1_0.length c1_0) := (qi BK140.out 0).trans rfl; have hfz9_0 := qk BK140.out 0) | (go_at_call 17; (with_reducible refine (q9.calls k _ _ l0_0 _ _ l1_0 t141 _ ?side1 ?side2 ?side3 ?side4 A4.out).mono ?_); (case side1 => repeat (first | exact (Kd.xc HR0_0.out HB.out) | (with_reducible refine Kd.ke ?_ _) | (with_reducible refine Kd.kf ?_ _) | (with_reducible refine Kd.ks ?_))); (case side2 => exact HC0_0.out); (case side3 => repeat (first | exact (Kd.xc HR1_0.out HB.out) | (with_reducible refine Kd.ke ?_ _) | (with_reducible refine Kd.kf ?_ _) | (with_reducible refine Kd.ks ?_))); (case side4 => exact HC1_0.out); rintro e w10 ⟨rfl, hb⟩; have n0_ := qa.mk (qt (g := gb139) (o := .cells #[.slice A0_0 l0_0.length c0_0] 24 (0, 0)) (by (with_reducible repeat (first | refine qg ?_ _ | refine qh ?_ | refine qf ?_ _)); exact BK139.out) hb); have n1_ := qa.mk (qt (g := gb140) (o := .cells #[.slice A1_0 l1_0.length c1_0] 24 (0, 0)) (by (with_reducible repeat (first | refine qg ?_ _ | refine qh ?_ | refine qf ?_ _)); exact BK140.out) hb); have n2_ := qa.mk (qj (by repeat (first | (with_reducible first | exact HB.out | apply qc | apply qb | apply qd | refine qe ?_ GE139.out | refine qe ?_ GE140.out) | exact HB.out)) hb); clear BK139; clear BK140; clear HB; have BK139 := n0_; have BK140 := n1_; have HB := n2_; clear n0_ n1_ n2_; (try clear hb); (try clear hb2); (try clear hk); (try clear hi)))
  go_ret
  exact ⟨by first | rfl | (simp [qq, qp] <;> rfl) | (simp [*, qq, qp] <;> rfl), by repeat (first | (with_reducible first | exact HB.out | apply qc | apply qb | apply qd | refine qe ?_ GE139.out | refine qe ?_ GE140.out) | exact HB.out)⟩
 ·rw [if_neg c3] at H
  have c3b0 : ((l0_0.length : Int) == (l1_0.length : Int)) = false := beq_eq_false_iff_ne.mpr c3
  have c3b1 : ((l0_0.length : Int) != (l1_0.length : Int)) = true := bne_iff_ne.mpr c3
  have c3b2 : (l0_0.length == l1_0.length) = false := by first | simpa using c3 | (simp at c3 ⊢; omega)
  obtain rfl := Option.some.inj H
  go_enter Tryd.func15, Tryd.ntmps15
  go_wp2_with (first | ((with_reducible refine zd (N := 2) rfl ?_); refine zg ?hg (N := 2) ?hd (cs := #[.slice A0_0 l0_0.length c0_0]) (t := 24) ?hr ?_; (case hd => rfl); (case hg => rfl); (case hr => first | (go_simp; done) | (go_simp; rfl)); intro gb139 hg w11 hbox hb; have n0_ := qa.mk (qj (by repeat (first | (with_reducible first | exact HB.out | apply qc | apply qb | apply qd) | exact HB.out)) hb); have n1_ := qa.mk (hbox); have n2_ := qa.mk ((by rw [hg]; exact (qm (by repeat (first | (with_reducible first | exact HB.out | apply qc | apply qb | apply qd) | exact HB.out))) : w.heap.size ≤ gb139)); have n3_ := qa.mk ((by rw [hg]; exact (qm (by repeat (first | (with_reducible first | exact HB.out | apply qc | apply qb | apply qd) | exact HB.out))) : w.heap.size ≤ gb139)); clear HB; have HB := n0_; have BK139 := n1_; have GW139 := n2_; have GE139 := n3_; clear n0_ n1_ n2_ n3_; clear hb hbox hg) | ((with_reducible refine zd (N := 3) rfl ?_); refine zg ?hg (N := 3) ?hd (cs := #[.slice A1_0 l1_0.length c1_0]) (t := 24) ?hr ?_; (case hd => rfl); (case hg => rfl); (case hr => first | (go_simp; done) | (go_simp; rfl)); intro gb140 hg w12 hbox hb; have n0_ := qa.mk (qt (g := gb139) (o := .cells #[.slice A0_0 l0_0.length c0_0] 24 (0, 0)) (by (with_reducible repeat (first | refine qg ?_ _ | refine qh ?_ | refine qf ?_ _)); exact BK139.out) hb); have n1_ := qa.mk (qj (by repeat (first | (with_reducible first | exact HB.out | apply qc | apply qb | apply qd | refine qe ?_ GE139.out) | exact HB.out)) hb); have n2_ := qa.mk (hbox); have n3_ := qa.mk ((by rw [hg]; exact (qm (by repeat (first | (with_reducible first | exact HB.out | apply qc | apply qb | apply qd | refine qe ?_ GE139.out) | exact HB.out))) : w.heap.size ≤ gb140)); have n4_ := qa.mk ((by rw [hg]; exact (qm (by repeat (first | (with_reducible first | exact HB.out | apply qc | apply qb | apply qd | refine qe ?_ GE139.out) | exact HB.out))) : w.heap.size ≤ gb140)); have n5_ := qa.mk ((by rw [hg]; exact Nat.ne_of_lt (zl (g := gb139) (o := .cells #[.slice A0_0 l0_0.length c0_0] 24 (0, 0)) (by (with_reducible repeat (first | refine qg ?_ _ | refine qh ?_ | refine qf ?_ _)); exact BK139.out)) : gb139 ≠ gb140)); have n6_ := qa.mk ((by rw [hg]; exact Nat.ne_of_gt (zl (g := gb139) (o := .cells #[.slice A0_0 l0_0.length c0_0] 24 (0, 0)) (by (with_reducible repeat (first | refine qg ?_ _ | refine qh ?_ | refine qf ?_ _)); exact BK139.out)) : gb140 ≠ gb139)); clear BK139; clear HB; have BK139 := n0_; have HB := n1_; have BK140 := n2_; have GW140 := n3_; have GE140 := n4_; have NB139_140 := n5_; have NB140_139 := n6_; clear n0_ n1_ n2_ n3_ n4_ n5_ n6_; clear hb hbox hg; have hnb13 := NB139_140.out; have hnc13 := NB140_139.out; have hcz14_0 : w12.cell? ⟨gb139, 0, none⟩ = some (.slice A0_0 l0_0.length c0_0) := (qi BK139.out 0).trans rfl; have hfz14_0 := qk BK139.out 0; have hcz15_0 : w12.cell? ⟨gb140, 0, none⟩ = some (.slice A1_0 l1_0.length c1_0) := (qi BK140.out 0).trans rfl; have hfz15_0 := qk BK140.out 0))
  go_ret
  exact ⟨by first | rfl | (simp [qq, qp] <;> rfl) | (simp [*, qq, qp] <;> rfl), by repeat (first | (with_reducible first | exact HB.out | apply qc | apply qb | apply qd | refine qe ?_ GE139.out | refine qe ?_ GE140.out) | exact HB.out)⟩
def strings_Split.f (a0 a1 : ByteArray) : Option (List ByteArray) := if 1 ≤ a1.size ∧ a0.size < 4294967281 then some (Lib.splitB a1 0 (Lib.countB a0 a1) a0) else none
theorem strings_Split.calls (a0 : ByteArray) (a1 : ByteArray) (r : List ByteArray) (w : World) (hG : LibHeld w) (h : strings_Split.f a0 a1 = some r) :
  Calls Tryd.prog 30 #[.string a0, .string a1] w fun e w' => ∃ v0_ : Value, e = .returned (v0_) ∧ Kd.R Kd.string 9 w' w.heap.size (fun _ => True) v0_ r ∧ Below w.heap.size w w' := by
 unfold strings_Split.f at h
 split at h
 ·rename_i hc
  obtain rfl := Option.some.inj h
  obtain ⟨m, hm⟩ := hG.maxLen
  refine (Tryd.strings_Split a0 a1 m w hc.2 hm hc.1).mono fun e w' ⟨he, hw⟩ => ?_
  have hl := Lib.splitB_all a1 hc.1 0 _ a0 rfl
  subst hw
  refine ⟨_, he, Kd.R_strs w _ hl (by have := Lib.countB_le a1 hc.1 a0.size a0 (Nat.le_refl _); omega), qc (Below.refl _ _) _⟩
 ·exact absurd h (by simp)
end Go.Proofs.YtjhlinifnjoefaaDoor.C
end
section
namespace Go.Proofs.YtjhlinifnjoefaaDoor.C
open Go.RowKit Go.Proofs.YtjhlinifnjoefaaDoorW.PrintWords Go.Proofs.YtjhlinifnjoefaaDoorW.PrintLast Go.Proofs.YtjhlinifnjoefaaDoorW.PrintMore
attribute [local go_sem] xr xp xw xx xf xe xq xo
set_option linter.unusedVariables false
set_option linter.unusedSimpArgs false
mutual
def xa.j0 : Nat → ByteArray → Bool → Option (Int)
 | 0, _, _ => none
 | k + 1, x0, x21 => if x21 = true then (some (-1)) else (xa.l0 k x0 0 0)
def xa.l0 : Nat → ByteArray → Int → Int → Option (Int)
 | 0, _, _, _ => none
 | k + 1, x0, x3, x4 => if x4 < (x0.size : Int) then (if 0 ≤ x4 then (if (bt x0 x4) < 48 then (some (-1)) else (if (bt x0 x4) > 57 then (some (-1)) else (xa.l0 k x0 (wrap64 ((wrap64 (10 * x3)) + (((bt x0 x4) - 48) % 256))) (wrap64 (x4 + 1))))) else (none)) else (if x3 > 2147483647 then (some (-1)) else (some x3))
end
def xa.f (k : Nat) (a0 : ByteArray) : Option (Int) := if a0.toList = ([] : List UInt8) then (xa.j0 k a0 true) else (if (a0.size : Int) > 10 then (xa.j0 k a0 true) else (if 0 < (a0.size : Int) then (if (bt a0 0) = 48 then (xa.j0 k a0 (decide ((a0.size : Int) > 1))) else (xa.j0 k a0 false)) else (none)))
theorem xa.xu : ∀ k, (∀ y0 y1, LeO (xa.j0 k y0 y1) (xa.j0 (k + 1) y0 y1)) ∧ (∀ y0 y1 y2, LeO (xa.l0 k y0 y1 y2) (xa.l0 (k + 1) y0 y1 y2))
 | 0 => ⟨fun _ _ r h => by simp [xa.j0] at h, fun _ _ _ r h => by simp [xa.l0] at h⟩
 | k + 1 => by
  obtain ⟨ih0, ih1⟩ := xa.xu k
  refine ⟨?_, ?_⟩
  ·intro y0 y1
   unfold xa.j0
   repeat' first
   | (with_reducible exact ih0 _ _)
   | (with_reducible exact ih1 _ _ _)
   | (with_reducible exact LeO.refl _)
   | (with_reducible exact LeO.none _)
   | (with_reducible refine LeO.ite ?_ ?_)
   | (with_reducible refine LeO.bind ?_ (fun _ => ?_))
  ·intro y0 y1 y2
   unfold xa.l0
   repeat' first
   | (with_reducible exact ih0 _ _)
   | (with_reducible exact ih1 _ _ _)
   | (with_reducible exact LeO.refl _)
   | (with_reducible exact LeO.none _)
   | (with_reducible refine LeO.ite ?_ ?_)
   | (with_reducible refine LeO.bind ?_ (fun _ => ?_))
theorem xa.mono : ∀ a0 k, LeO (xa.f k a0) (xa.f (k + 1) a0) := by
 intro a0 k
 obtain ⟨ih0, ih1⟩ := xa.xu k
 unfold xa.f
 repeat' first
   | (with_reducible exact ih0 _ _)
   | (with_reducible exact ih1 _ _ _)
   | (with_reducible exact LeO.refl _)
   | (with_reducible exact LeO.none _)
   | (with_reducible refine LeO.ite ?_ ?_)
   | (with_reducible refine LeO.bind ?_ (fun _ => ?_))
set_option maxHeartbeats 8000000 in
set_option maxRecDepth 100000 in
theorem xa.calls (k : Nat) (a0 : ByteArray) (r : Int) (w : World) (h : xa.f k a0 = some r) :
  Calls Tryd.prog 51 #[.string a0] w fun e w' => e = .returned (.int .i64 r) ∧ zq w w' := by
 have H : (if a0.toList = ([] : List UInt8) then (xa.j0 k a0 true) else (if (a0.size : Int) > 10 then (xa.j0 k a0 true) else (if 0 < (a0.size : Int) then (if (bt a0 0) = 48 then (xa.j0 k a0 (decide ((a0.size : Int) > 1))) else (xa.j0 k a0 false)) else (none)))) = some r := h
 clear h
 have HC2 := qa.mk H
 clear H
 go_enter Tryd.func51, Tryd.ntmps51
 go_upto_region 1 with (fail)
 go_cut [21] (fun v21 wc => ∃ (kq : Nat) (x21_1 : Bool), v21 = .bool x21_1 ∧ qa (xa.j0 kq a0 x21_1 = some r) ∧ qa (kq ≤ k) ∧ zq w wc)
 case first =>
  have H := HC2.out
  clear HC2
  by_cases c3 : a0.toList = ([] : List UInt8)
  ·rw [if_pos c3] at H
   have c3b0 : (a0.toList == ([] : List UInt8)) = true := beq_iff_eq.mpr c3
   have c3b1 : (a0.toList != ([] : List UInt8)) = false := bne_eq_false_iff_eq.mpr c3
   clear c3
   (first | rw [c3b0] | (simp only [qy, qz]; rw [c3b0]) | skip)
   have H' := qa.mk H
   clear H
   go_wp2
   go_meet
   case rel => exact ⟨_, (true), (by first | rfl | (simp; done) | (simp [*]; done)), H', ⟨by first | omega | exact Nat.le_refl _⟩, by repeat (first | exact zq.refl _ | apply zq.step)⟩
  ·rw [if_neg c3] at H
   have c3b0 : (a0.toList == ([] : List UInt8)) = false := beq_eq_false_iff_ne.mpr c3
   have c3b1 : (a0.toList != ([] : List UInt8)) = true := bne_iff_ne.mpr c3
   (first | rw [c3b0] | (simp only [qy, qz]; rw [c3b0]) | skip)
   by_cases c4 : (a0.size : Int) > 10
   ·rw [if_pos c4] at H
    have c4b0 : decide (10 < (a0.size : Int)) = true := decide_eq_true c4
    have c4b1 : decide (10 < a0.size) = true := decide_eq_true (by omega)
    clear c4
    have H' := qa.mk H
    clear H
    go_wp2
    go_meet
    case rel => exact ⟨_, (true), (by first | rfl | (simp; done) | (simp [*]; done)), H', ⟨by first | omega | exact Nat.le_refl _⟩, by repeat (first | exact zq.refl _ | apply zq.step)⟩
   ·rw [if_neg c4] at H
    have c4b0 : decide (10 < (a0.size : Int)) = false := decide_eq_false c4
    have c4b1 : decide (10 < a0.size) = false := decide_eq_false (by omega)
    clear c4
    by_cases c5 : 0 < (a0.size : Int)
    ·rw [if_pos c5] at H
     have c5b0 : decide (0 < (a0.size : Int)) = true := decide_eq_true c5
     have c5b1 : decide (0 < a0.size) = true := decide_eq_true (by omega)
     clear c5
     by_cases c7 : (bt a0 0) = 48
     ·rw [if_pos c7] at H
      have c7b0 : ((bt a0 0) == 48) = true := beq_iff_eq.mpr c7
      have c7b1 : ((bt a0 0) != 48) = false := bne_eq_false_iff_eq.mpr c7
      clear c7
      have H' := qa.mk H
      clear H
      have p6 : 0 ≤ (0 : Int) := (by omega)
      have q6 : 0 < a0.size := (by have : (0 : Int) < (a0.size : Int) := of_decide_eq_true (by first | (with_reducible assumption) | assumption); omega)
      have hx6 : ∀ h : 0 < a0.size, ((a0[0]'h).toNat : Int) = bt a0 0 := bt_at a0 0
      clear p6
      have qi6 : (0 < (a0.size : Int)) = True := eq_true (of_decide_eq_true (by first | (with_reducible assumption) | assumption))
      replace q6 := eq_true q6
      go_wp2
      go_meet
      case rel => exact ⟨_, (decide ((a0.size : Int) > 1)), (by first | rfl | (simp; done) | (simp [*]; done)), H', ⟨by first | omega | exact Nat.le_refl _⟩, by repeat (first | exact zq.refl _ | apply zq.step)⟩
     ·rw [if_neg c7] at H
      have c7b0 : ((bt a0 0) == 48) = false := beq_eq_false_iff_ne.mpr c7
      have c7b1 : ((bt a0 0) != 48) = true := bne_iff_ne.mpr c7
      have H' := qa.mk H
      clear H
      have p6 : 0 ≤ (0 : Int) := (by omega)
      have q6 : 0 < a0.size := (by have : (0 : Int) < (a0.size : Int) := of_decide_eq_true (by first | (with_reducible assumption) | assumption); omega)
      have hx6 : ∀ h : 0 < a0.size, ((a0[0]'h).toNat : Int) = bt a0 0 := bt_at a0 0
      clear p6
      have qi6 : (0 < (a0.size : Int)) = True := eq_true (of_decide_eq_true (by first | (with_reducible assumption) | assumption))
      replace q6 := eq_true q6
      go_wp2
      go_meet
      case rel => exact ⟨_, (false), (by first | rfl | (simp; done) | (simp [*]; done)), H', ⟨by first | omega | exact Nat.le_refl _⟩, by repeat (first | exact zq.refl _ | apply zq.step)⟩
    ·rw [if_neg c5] at H
     exact absurd H (by simp)
 case rest =>
  clear HC2
  (try clear p2); (try clear c3); (try clear c3b0); (try clear c3b1); (try clear c4); (try clear c4b0); (try clear c4b1); (try clear c5); (try clear c5b0); (try clear c5b1); (try clear p6); try clear q6
  (try clear hx6); (try clear qi6); (try clear c7); (try clear c7b0); (try clear c7b1); (try clear p6); try clear q6
  obtain ⟨kq, x21_1, rfl, HA, HJ1, ⟨mc1, rfl⟩⟩ := hcut
  cases kq with
  | zero => exact absurd HA.out (by simp [xa.j0])
  | succ kj1 =>
   have H := HA.out
   clear HA
   simp only [xa.j0] at H
   by_cases c8 : x21_1 = true
   ·subst c8
    have H1 : (some (-1)) = some r := by rw [if_pos rfl] at H; exact H
    clear H
    have H := H1
    clear H1
    obtain rfl := Option.some.inj H
    go_wp2
    go_ret
    exact ⟨by first | rfl | (simp; done) | (simp [*]; done), by repeat (first | exact zq.refl _ | apply zq.step)⟩
   ·replace c8 := Bool.eq_false_iff.mpr c8
    subst c8
    have H1 : (xa.l0 kj1 a0 0 0) = some r := by rw [if_neg (show ¬ (false = true) by decide)] at H; exact H
    clear H
    have H := H1
    clear H1
    have H' := qa.mk H
    clear H
    go_wp2
    go_loopg [3, 4] kj1 (fun kq v3 v4 w' => ∃ (x3_2 : Int) (x4_2 : Int), v3 = .int .i64 x3_2 ∧ v4 = .int .i64 x4_2 ∧ qa (xa.l0 kq a0 x3_2 x4_2 = some r) ∧ qa (kq ≤ kj1) ∧ zq w w')
    case atStart => exact ⟨(0), (0), (by first | rfl | (simp; done) | (simp [*]; done)), (by first | rfl | (simp; done) | (simp [*]; done)), H', ⟨Nat.le_refl _⟩, by repeat (first | exact zq.refl _ | apply zq.step)⟩
    case round =>
     clear H'
     (try clear c1); (try clear p2); (try clear c3); (try clear c3b0); (try clear c3b1); (try clear c4); (try clear c4b0); (try clear c4b1); (try clear c5); (try clear c5b0); (try clear c5b1); try clear p6
     (try clear q6); (try clear hx6); (try clear qi6); (try clear c7); (try clear c7b0); (try clear c7b1); (try clear c8); (try clear p2); (try clear p6); try clear q6
     obtain ⟨x3_2, x4_2, rfl, rfl, HA, HK2, ⟨m2, rfl⟩⟩ := hrel
     cases gk with
     | zero => exact absurd HA.out (by simp [xa.l0])
     | succ k2 =>
      have H := HA.out
      clear HA
      simp only [xa.l0] at H
      by_cases c9 : x4_2 < (a0.size : Int)
      ·rw [if_pos c9] at H
       have c9b0 : decide (x4_2 < (a0.size : Int)) = true := decide_eq_true c9
       clear c9
       by_cases c10 : 0 ≤ x4_2
       ·rw [if_pos c10] at H
        have c10b0 : decide (0 ≤ x4_2) = true := decide_eq_true c10
        clear c10
        by_cases c12 : (bt a0 x4_2) < 48
        ·rw [if_pos c12] at H
         have c12b0 : decide ((bt a0 x4_2) < 48) = true := decide_eq_true c12
         clear c12
         obtain rfl := Option.some.inj H
         have p11 : 0 ≤ (x4_2 : Int) := of_decide_eq_true (by first | (with_reducible assumption) | assumption)
         have q11 : x4_2 < (a0.size : Int) := of_decide_eq_true (by first | (with_reducible assumption) | assumption)
         have hx11 := bt_at a0 x4_2
         replace p11 := eq_true p11
         replace q11 := eq_true q11
         go_wp2
         go_ret
         exact ⟨by first | rfl | (simp; done) | (simp [*]; done), by repeat (first | exact zq.refl _ | apply zq.step)⟩
        ·rw [if_neg c12] at H
         have c12b0 : decide ((bt a0 x4_2) < 48) = false := decide_eq_false c12
         clear c12
         by_cases c14 : (bt a0 x4_2) > 57
         ·rw [if_pos c14] at H
          have c14b0 : decide (57 < (bt a0 x4_2)) = true := decide_eq_true c14
          clear c14
          obtain rfl := Option.some.inj H
          have p11 : 0 ≤ (x4_2 : Int) := of_decide_eq_true (by first | (with_reducible assumption) | assumption)
          have q11 : x4_2 < (a0.size : Int) := of_decide_eq_true (by first | (with_reducible assumption) | assumption)
          have hx11 := bt_at a0 x4_2
          replace p11 := eq_true p11
          replace q11 := eq_true q11
          have p13 : 0 ≤ (x4_2 : Int) := of_decide_eq_true (by first | (with_reducible assumption) | assumption)
          have q13 : x4_2 < (a0.size : Int) := of_decide_eq_true (by first | (with_reducible assumption) | assumption)
          have hx13 := bt_at a0 x4_2
          replace p13 := eq_true p13
          replace q13 := eq_true q13
          go_wp2
          go_ret
          exact ⟨by first | rfl | (simp; done) | (simp [*]; done), by repeat (first | exact zq.refl _ | apply zq.step)⟩
         ·rw [if_neg c14] at H
          have c14b0 : decide (57 < (bt a0 x4_2)) = false := decide_eq_false c14
          clear c14
          have H' := qa.mk H
          clear H
          have p11 : 0 ≤ (x4_2 : Int) := of_decide_eq_true (by first | (with_reducible assumption) | assumption)
          have q11 : x4_2 < (a0.size : Int) := of_decide_eq_true (by first | (with_reducible assumption) | assumption)
          have hx11 := bt_at a0 x4_2
          replace p11 := eq_true p11
          replace q11 := eq_true q11
          have p13 : 0 ≤ (x4_2 : Int) := of_decide_eq_true (by first | (with_reducible assumption) | assumption)
          have q13 : x4_2 < (a0.size : Int) := of_decide_eq_true (by first | (with_reducible assumption) | assumption)
          have hx13 := bt_at a0 x4_2
          replace p13 := eq_true p13
          replace q13 := eq_true q13
          have p15 : 0 ≤ (x4_2 : Int) := of_decide_eq_true (by first | (with_reducible assumption) | assumption)
          have q15 : x4_2 < (a0.size : Int) := of_decide_eq_true (by first | (with_reducible assumption) | assumption)
          have hx15 := bt_at a0 x4_2
          replace p15 := eq_true p15
          replace q15 := eq_true q15
          go_wp2
          go_roundg k2
          case measure => have := HJ1.out; have := HK2.out; omega
          case rel => exact ⟨(wrap64 ((wrap64 (10 * x3_2)) + (((bt a0 x4_2) - 48) % 256))), (wrap64 (x4_2 + 1)), (by first | rfl | (simp; done) | (simp [*]; done)), (by first | rfl | (simp; done) | (simp [*]; done)), H', ⟨by have := HJ1.out; have := HK2.out; omega⟩, by repeat (first | exact zq.refl _ | apply zq.step)⟩
       ·rw [if_neg c10] at H
        exact absurd H (by simp)
      ·rw [if_neg c9] at H
       have c9b0 : decide (x4_2 < (a0.size : Int)) = false := decide_eq_false c9
       clear c9
       by_cases c16 : x3_2 > 2147483647
       ·rw [if_pos c16] at H
        have c16b0 : decide (2147483647 < x3_2) = true := decide_eq_true c16
        clear c16
        obtain rfl := Option.some.inj H
        go_wp2
        go_ret
        exact ⟨by first | rfl | (simp; done) | (simp [*]; done), by repeat (first | exact zq.refl _ | apply zq.step)⟩
       ·rw [if_neg c16] at H
        have c16b0 : decide (2147483647 < x3_2) = false := decide_eq_false c16
        clear c16
        obtain rfl := Option.some.inj H
        go_wp2
        go_ret
        exact ⟨by first | rfl | (simp; done) | (simp [*]; done), by repeat (first | exact zq.refl _ | apply zq.step)⟩
def oid_root.f (a0 : Int) (a1 : Int) : Option (Bool) := if a0 ≤ 1 then (if a1 ≤ 39 then (some true) else (some (a0 == 2))) else (some (a0 == 2))
set_option maxHeartbeats 8000000 in
set_option maxRecDepth 100000 in
theorem oid_root.calls (a0 : Int) (a1 : Int) (r : Bool) (w : World) (h : oid_root.f a0 a1 = some r) :
  Calls Tryd.prog 52 #[.int .i64 a0, .int .i64 a1] w fun e w' => e = .returned (.bool r) ∧ zq w w' := by
 have H : (if a0 ≤ 1 then (if a1 ≤ 39 then (some true) else (some (a0 == 2))) else (some (a0 == 2))) = some r := h
 clear h
 by_cases c3 : a0 ≤ 1
 ·rw [if_pos c3] at H
  have c3b0 : decide (a0 ≤ 1) = true := decide_eq_true c3
  clear c3
  by_cases c4 : a1 ≤ 39
  ·rw [if_pos c4] at H
   have c4b0 : decide (a1 ≤ 39) = true := decide_eq_true c4
   clear c4
   obtain rfl := Option.some.inj H
   go_enter Tryd.func52, Tryd.ntmps52
   go_wp2
   go_ret
   exact ⟨by first | rfl | (simp; done) | (simp [*]; done), by repeat (first | exact zq.refl _ | apply zq.step)⟩
  ·rw [if_neg c4] at H
   have c4b0 : decide (a1 ≤ 39) = false := decide_eq_false c4
   clear c4
   obtain rfl := Option.some.inj H
   go_enter Tryd.func52, Tryd.ntmps52
   go_wp2
   go_ret
   exact ⟨by first | rfl | (simp; done) | (simp [*]; done), by repeat (first | exact zq.refl _ | apply zq.step)⟩
 ·rw [if_neg c3] at H
  have c3b0 : decide (a0 ≤ 1) = false := decide_eq_false c3
  clear c3
  obtain rfl := Option.some.inj H
  go_enter Tryd.func52, Tryd.ntmps52
  go_wp2
  go_ret
  exact ⟨by first | rfl | (simp; done) | (simp [*]; done), by repeat (first | exact zq.refl _ | apply zq.step)⟩
end Go.Proofs.YtjhlinifnjoefaaDoor.C
end
