/- Words, walks and plain laws that the claim rests on, gathered. -/
import Derived.Shelf.Strings.Builder1
import Derived.Shelf.Strings.Builder2
import Derived.Shelf.Strings.OnBuilder
import Derived.Shelf.Small.Bits
import Derived.Shelf.Small.Strs
import Derived.Shelf.Small.Wraps
import Derived.Shelf.Strings.BuilderF
import Derived.Shelf.Strings.BuilderK
import Derived.Shelf.Utf8.RuneCount
import Derived.Shelf.Strings.Builder2Cap
import Derived.Shelf.Strconv.Itoa0
import Derived.Shelf.Strings.Search1
import Derived.Shelf.Strings.Search2
import Derived.Shelf.Strings.Search3
import Derived.Shelf.Strings.Cut
import Derived.Shelf.Strings.Count
import Derived.Shelf.LaysM
import Derived.Shelf.Strings.Shaped
import Derived.Shelf.Sort.Plain
import Derived.Shelf.Strings.Prefix
import Derived.Shelf.Strings.Split
import Derived.Shelf.Strings.SplitShaped
import Derived.Shelf.Unicode.Decode
import Derived.Shelf.Strings.RuneCount
import Derived.Shelf.Strings.Explode
import Derived.Shelf.Unicode.DecodeSlow
import Derived.Shelf.Unicode.DecodeAny
import Derived.Shelf.Strings.BuilderCap
import Derived.Shelf.Slices.In.SortNone
import Derived.Shelf.Slices.In.SortNone2
import Derived.Test.YtlamfnaoemingaaGreatDoorProg
import Derived.Below
import Derived.Deep.Draws
import Derived.Deep.AppendLies
import Derived.Maps.AppendAt
import Derived.OwnWalk
import Derived.Laws.BytesArg
import Derived.Laws.MakeOwn
import Derived.Laws.OwnMore
import Derived.Deep.OwnRows
import Derived.Tactics
import Derived.Lib.ConvBytes
import Derived.Laws.Slices
import Derived.WalkKit
import Derived.KernelRfl
import Derived.RowKit3
import Derived.Deep.LoopGhost
import Derived.Deep.QuietTactic
import Derived.BigQuiet
import Derived.WideLaws
import Derived.Deep.DeepCutAuto
import Derived.Deep.CutBlock
import Derived.Deep.RegionHeld3
import Derived.Laws.Rows
import Derived.Lib.AppendStr
import Derived.ArgAppend
import Derived.Laws.IdiomCopy
import Derived.RowKit
import Derived.OrdersHeld
import Derived.Laws.BitsLemmas
import Derived.WalkSpells
import Derived.WalkLawsBesides
import Derived.Laws.StructEq
import Derived.Test.YtlamfnaoemingaaGreatDoorGS0
import Derived.Test.YtlamfnaoemingaaGreatDoorGS1
import Derived.Test.YtlamfnaoemingaaGreatDoorGS2
import Derived.Test.YtlamfnaoemingaaGreatDoorGS4
import Derived.Test.YtlamfnaoemingaaGreatDoorGSc
namespace Go.Proofs.YtlamfnaoemingaaGreatDoorW.PrintLast
end Go.Proofs.YtlamfnaoemingaaGreatDoorW.PrintLast
namespace Go.Proofs.YtlamfnaoemingaaGreatDoorW.PrintMore
end Go.Proofs.YtlamfnaoemingaaGreatDoorW.PrintMore
namespace Go.Proofs.YtlamfnaoemingaaGreatDoorW.PrintWords
end Go.Proofs.YtlamfnaoemingaaGreatDoorW.PrintWords
section
namespace Go.Proofs.YtlamfnaoemingaaGreatDoor.C
open Go.RowKit Go.Proofs.YtlamfnaoemingaaGreatDoorW.PrintWords Go.Proofs.YtlamfnaoemingaaGreatDoorW.PrintLast Go.Proofs.YtlamfnaoemingaaGreatDoorW.PrintMore
attribute [local go_sem] zw zx xe xd zn zp zy zz
set_option linter.unusedVariables false
set_option linter.unusedSimpArgs false
def zd.l0 : Nat → List (S83) → List (S83) → Int → Int → Option (Bool)
 | 0, _, _, _, _ => none
 | k + 1, x0, x1, x12, x13 => if x13 < x12 then (if 0 ≤ x13 then (if x13 < (x0.length : Int) then ((ze.f k x1 ((q9 x0 x13).f0) ((q9 x0 x13).f1) ((q9 x0 x13).f2)).bind fun t168 => (if t168 = true then (if x13 < (x1.length : Int) then ((ze.f k x0 ((q9 x1 x13).f0) ((q9 x1 x13).f1) ((q9 x1 x13).f2)).bind fun t170 => (if t170 = true then (zd.l0 k x0 x1 x12 (wrap64 (x13 + 1))) else (some false))) else (none)) else (some false))) else (none)) else (none)) else (some true)
def zd.f (k : Nat) (l0 : List (S83)) (l1 : List (S83)) : Option (Bool) := if (l0.length : Int) = (l1.length : Int) then (zd.l0 k l0 l1 (l0.length : Int) 0) else (some false)
theorem zd.zv : ∀ k, (∀ y0 y1 y2 y3, LeO (zd.l0 k y0 y1 y2 y3) (zd.l0 (k + 1) y0 y1 y2 y3))
 | 0 => fun _ _ _ _ r h => by simp [zd.l0] at h
 | k + 1 => by
  have ih0 := zd.zv k
  ·intro y0 y1 y2 y3
   unfold zd.l0
   repeat' first
   | (with_reducible exact ih0 _ _ _ _)
   | (with_reducible exact ze.mono _ _ _ _ _)
   | (with_reducible exact LeO.refl _)
   | (with_reducible exact LeO.none _)
   | (with_reducible refine LeO.ite ?_ ?_)
   | (with_reducible refine LeO.bind ?_ (fun _ => ?_))
theorem zd.mono : ∀ a0 a1 k, LeO (zd.f k a0 a1) (zd.f (k + 1) a0 a1) := by
 intro a0 a1 k
 have ih0 := zd.zv k
 unfold zd.f
 repeat' first
   | (with_reducible exact ih0 _ _ _ _)
   | (with_reducible exact ze.mono _ _ _ _ _)
   | (with_reducible exact LeO.refl _)
   | (with_reducible exact LeO.none _)
   | (with_reducible refine LeO.ite ?_ ?_)
   | (with_reducible refine LeO.bind ?_ (fun _ => ?_))
set_option maxHeartbeats 8000000 in
set_option maxRecDepth 100000 in
theorem zd.calls (k : Nat) (A0 : Option Addr) (c0 : Nat) (l0 : List (S83)) (A1 : Option Addr) (c1 : Nat) (l1 : List (S83)) (r : Bool) (w : World) (hr0 : Kd.C k83 w A0 l0.length l0) (hc0 : l0.length ≤ c0) (hr1 : Kd.C k83 w A1 l1.length l1) (hc1 : l1.length ≤ c1) (h : zd.f k l0 l1 = some r) :
  Calls Tryz.prog 120 #[.slice A0 l0.length c0, .slice A1 l1.length c1] w fun e w' => e = .returned (.bool r) ∧ Below w.heap.size w w' := by
 have hu83 := Tryz.underlying83
 have HR0 := qd.mk hr0
 have HC0 := qd.mk hc0
 clear hr0 hc0
 have HR1 := qd.mk hr1
 have HC1 := qd.mk hc1
 clear hr1 hc1
 have HB := qd.mk (Below.refl w.heap.size w)
 have H : (if (l0.length : Int) = (l1.length : Int) then (zd.l0 k l0 l1 (l0.length : Int) 0) else (some false)) = some r := h
 clear h
 by_cases c3 : (l0.length : Int) = (l1.length : Int)
 ·rw [if_pos c3] at H
  have c3b0 : ((l0.length : Int) == (l1.length : Int)) = true := beq_iff_eq.mpr c3
  have c3b1 : ((l0.length : Int) != (l1.length : Int)) = false := bne_eq_false_iff_eq.mpr c3
  have c3b2 : (l0.length == l1.length) = true := by first | simpa using c3 | (simp at c3 ⊢; omega)
  clear c3
  have H' := qd.mk H
  clear H
  go_enter Tryz.func120, Tryz.ntmps120
  go_wp2
  go_loopg [13] k (fun kq v13 w' => ∃ (x13_1 : Int), v13 = .int .i64 x13_1 ∧ qd (zd.l0 kq l0 l1 (l0.length : Int) x13_1 = some r) ∧ qd (kq ≤ k) ∧ qd (Below w.heap.size w w'))
  case atStart => exact ⟨(0), yf, H', ⟨Nat.le_refl _⟩, ⟨by repeat (first | (with_reducible first | exact HB.out | apply qb | apply qa | apply qc) | exact HB.out)⟩⟩
  case round =>
   clear H'
   (try clear c1); (try clear p2); (try clear c3); (try clear c3b0); (try clear c3b1); try clear c3b2
   obtain ⟨x13_1, rfl, HA, HK1, HB⟩ := hrel
   cases gk with
   | zero => exact absurd HA.out (by simp [zd.l0])
   | succ k1 =>
    have H := HA.out
    clear HA
    simp only [zd.l0] at H
    by_cases c4 : x13_1 < (l0.length : Int)
    ·rw [if_pos c4] at H
     have c4b0 : decide (x13_1 < (l0.length : Int)) = true := decide_eq_true c4
     clear c4
     by_cases c5 : 0 ≤ x13_1
     ·rw [if_pos c5] at H
      have c5b0 : decide (0 ≤ x13_1) = true := decide_eq_true c5
      clear c5
      by_cases c6 : x13_1 < (l0.length : Int)
      ·rw [if_pos c6] at H
       have c6b0 : decide (x13_1 < (l0.length : Int)) = true := decide_eq_true c6
       clear c6
       replace H := Option.bind_eq_some_iff.mp H
       obtain ⟨t168, A70, H⟩ := H
       replace H : (if t168 = true then (if x13_1 < (l1.length : Int) then ((ze.f k1 l0 ((q9 l1 x13_1).f0) ((q9 l1 x13_1).f1) ((q9 l1 x13_1).f2)).bind fun t170 => (if t170 = true then (zd.l0 k1 l0 l1 (l0.length : Int) (wrap64 (x13_1 + 1))) else (some false))) else (none)) else (some false)) = some r := H
       have A7 := qd.mk A70
       clear A70
       by_cases c8 : t168 = true
       ·subst c8
        have H1 : (if x13_1 < (l1.length : Int) then ((ze.f k1 l0 ((q9 l1 x13_1).f0) ((q9 l1 x13_1).f1) ((q9 l1 x13_1).f2)).bind fun t170 => (if t170 = true then (zd.l0 k1 l0 l1 (l0.length : Int) (wrap64 (x13_1 + 1))) else (some false))) else (none)) = some r := by rw [if_pos rfl] at H; exact H
        clear H
        have H := H1
        clear H1
        by_cases c9 : x13_1 < (l1.length : Int)
        ·rw [if_pos c9] at H
         have c9b0 : decide (x13_1 < (l1.length : Int)) = true := decide_eq_true c9
         clear c9
         replace H := Option.bind_eq_some_iff.mp H
         obtain ⟨t170, A100, H⟩ := H
         replace H : (if t170 = true then (zd.l0 k1 l0 l1 (l0.length : Int) (wrap64 (x13_1 + 1))) else (some false)) = some r := H
         have A10 := qd.mk A100
         clear A100
         by_cases c11 : t170 = true
         ·subst c11
          have H1 : (zd.l0 k1 l0 l1 (l0.length : Int) (wrap64 (x13_1 + 1))) = some r := by rw [if_pos rfl] at H; exact H
          clear H
          have H := H1
          clear H1
          have H' := qd.mk H
          clear H
          have p167 : 0 ≤ (x13_1 : Int) := of_decide_eq_true yc
          have q167 : x13_1 < (l0.length : Int) := of_decide_eq_true yc
          obtain ⟨ad167, e167, hx167_0, hx167_1, hx167_2⟩ := at_T83 HR0.out x13_1 p167 q167
          cases e167
          replace hx167_0 := (HB.out.cell (World.block_lt_of_cell? w _ hx167_0)).trans hx167_0
          replace hx167_1 := (HB.out.cell (World.block_lt_of_cell? w _ hx167_1)).trans hx167_1
          replace hx167_2 := (HB.out.cell (World.block_lt_of_cell? w _ hx167_2)).trans hx167_2
          replace p167 := eq_true p167
          replace q167 := eq_true q167
          go_wp2_with (first | ((with_reducible refine qp (f := 148) rfl ?_); refine za (some 21) rfl rfl Tryz.func148 yg rfl #[.slice A1 l1.length c1, .agg #[.string ((q9 l0 x13_1).f0), .int .i64 ((q9 l0 x13_1).f1), .string ((q9 l0 x13_1).f2)]] rfl cz ?_; (with_reducible refine (ze.calls k1 _ _ l1 ((q9 l0 x13_1).f0) ((q9 l0 x13_1).f1) ((q9 l0 x13_1).f2) true _ ?side1 ?side2 A7.out).mono ?_); (case side1 => repeat (first | exact (Kd.xh HR1.out HB.out) | (with_reducible refine Kd.xm ?_ _) | (with_reducible refine Kd.xl ?_ _) | (with_reducible refine Kd.xx ?_))); (case side2 => exact HC1.out); rintro e w12 ⟨rfl, hb⟩; refine ⟨_, rfl, ?_⟩; have n0_ := qd.mk (qf cu hb); clear HB; have HB := n0_; clear n0_; (try clear hb); (try clear hb2); (try clear hk); (try clear hi); have p169 : 0 ≤ (x13_1 : Int) := of_decide_eq_true yc; have q169 : x13_1 < (l1.length : Int) := of_decide_eq_true yc; obtain ⟨ad169, e169, hx169_0, hx169_1, hx169_2⟩ := at_T83 HR1.out x13_1 p169 q169; cases e169; replace hx169_0 := (HB.out.cell (World.block_lt_of_cell? w _ hx169_0)).trans hx169_0; replace hx169_1 := (HB.out.cell (World.block_lt_of_cell? w _ hx169_1)).trans hx169_1; replace hx169_2 := (HB.out.cell (World.block_lt_of_cell? w _ hx169_2)).trans hx169_2; replace p169 := eq_true p169; replace q169 := eq_true q169) | (go_at_call 148; (with_reducible refine (ze.calls k1 _ _ l0 ((q9 l1 x13_1).f0) ((q9 l1 x13_1).f1) ((q9 l1 x13_1).f2) true _ ?side1 ?side2 A10.out).mono ?_); (case side1 => repeat (first | exact (Kd.xh HR0.out HB.out) | (with_reducible refine Kd.xm ?_ _) | (with_reducible refine Kd.xl ?_ _) | (with_reducible refine Kd.xx ?_))); (case side2 => exact HC0.out); rintro e w13 ⟨rfl, hb⟩; have n0_ := qd.mk (qf cu hb); clear HB; have HB := n0_; clear n0_; (try clear hb); (try clear hb2); (try clear hk); (try clear hi)))
          go_roundg k1
          case measure => have := HK1.out; omega
          case rel => exact ⟨(wrap64 (x13_1 + 1)), yf, H', ⟨by have := HK1.out; omega⟩, ⟨by repeat (first | (with_reducible first | exact HB.out | apply qb | apply qa | apply qc) | exact HB.out)⟩⟩
         ·replace c11 := Bool.eq_false_iff.mpr c11
          subst c11
          have H1 : (some false) = some r := by rw [if_neg (show ¬ (false = true) by decide)] at H; exact H
          clear H
          have H := H1
          clear H1
          obtain rfl := Option.some.inj H
          have p167 : 0 ≤ (x13_1 : Int) := of_decide_eq_true yc
          have q167 : x13_1 < (l0.length : Int) := of_decide_eq_true yc
          obtain ⟨ad167, e167, hx167_0, hx167_1, hx167_2⟩ := at_T83 HR0.out x13_1 p167 q167
          cases e167
          replace hx167_0 := (HB.out.cell (World.block_lt_of_cell? w _ hx167_0)).trans hx167_0
          replace hx167_1 := (HB.out.cell (World.block_lt_of_cell? w _ hx167_1)).trans hx167_1
          replace hx167_2 := (HB.out.cell (World.block_lt_of_cell? w _ hx167_2)).trans hx167_2
          replace p167 := eq_true p167
          replace q167 := eq_true q167
          go_wp2_with (first | ((with_reducible refine qp (f := 148) rfl ?_); refine za (some 21) rfl rfl Tryz.func148 yg rfl #[.slice A1 l1.length c1, .agg #[.string ((q9 l0 x13_1).f0), .int .i64 ((q9 l0 x13_1).f1), .string ((q9 l0 x13_1).f2)]] rfl cz ?_; (with_reducible refine (ze.calls k1 _ _ l1 ((q9 l0 x13_1).f0) ((q9 l0 x13_1).f1) ((q9 l0 x13_1).f2) true _ ?side1 ?side2 A7.out).mono ?_); (case side1 => repeat (first | exact (Kd.xh HR1.out HB.out) | (with_reducible refine Kd.xm ?_ _) | (with_reducible refine Kd.xl ?_ _) | (with_reducible refine Kd.xx ?_))); (case side2 => exact HC1.out); rintro e w14 ⟨rfl, hb⟩; refine ⟨_, rfl, ?_⟩; have n0_ := qd.mk (qf cu hb); clear HB; have HB := n0_; clear n0_; (try clear hb); (try clear hb2); (try clear hk); (try clear hi); have p169 : 0 ≤ (x13_1 : Int) := of_decide_eq_true yc; have q169 : x13_1 < (l1.length : Int) := of_decide_eq_true yc; obtain ⟨ad169, e169, hx169_0, hx169_1, hx169_2⟩ := at_T83 HR1.out x13_1 p169 q169; cases e169; replace hx169_0 := (HB.out.cell (World.block_lt_of_cell? w _ hx169_0)).trans hx169_0; replace hx169_1 := (HB.out.cell (World.block_lt_of_cell? w _ hx169_1)).trans hx169_1; replace hx169_2 := (HB.out.cell (World.block_lt_of_cell? w _ hx169_2)).trans hx169_2; replace p169 := eq_true p169; replace q169 := eq_true q169) | (go_at_call 148; (with_reducible refine (ze.calls k1 _ _ l0 ((q9 l1 x13_1).f0) ((q9 l1 x13_1).f1) ((q9 l1 x13_1).f2) false _ ?side1 ?side2 A10.out).mono ?_); (case side1 => repeat (first | exact (Kd.xh HR0.out HB.out) | (with_reducible refine Kd.xm ?_ _) | (with_reducible refine Kd.xl ?_ _) | (with_reducible refine Kd.xx ?_))); (case side2 => exact HC0.out); rintro e w15 ⟨rfl, hb⟩; have n0_ := qd.mk (qf cu hb); clear HB; have HB := n0_; clear n0_; (try clear hb); (try clear hb2); (try clear hk); (try clear hi)))
          go_ret
          exact ⟨by first | rfl | (simp [qi, qj] <;> rfl) | (simp [*, qi, qj] <;> rfl), by repeat (first | (with_reducible first | exact HB.out | apply qb | apply qa | apply qc) | exact HB.out)⟩
        ·rw [if_neg c9] at H
         exact absurd H y7
       ·replace c8 := Bool.eq_false_iff.mpr c8
        subst c8
        have H1 : (some false) = some r := by rw [if_neg (show ¬ (false = true) by decide)] at H; exact H
        clear H
        have H := H1
        clear H1
        obtain rfl := Option.some.inj H
        have p167 : 0 ≤ (x13_1 : Int) := of_decide_eq_true yc
        have q167 : x13_1 < (l0.length : Int) := of_decide_eq_true yc
        obtain ⟨ad167, e167, hx167_0, hx167_1, hx167_2⟩ := at_T83 HR0.out x13_1 p167 q167
        cases e167
        replace hx167_0 := (HB.out.cell (World.block_lt_of_cell? w _ hx167_0)).trans hx167_0
        replace hx167_1 := (HB.out.cell (World.block_lt_of_cell? w _ hx167_1)).trans hx167_1
        replace hx167_2 := (HB.out.cell (World.block_lt_of_cell? w _ hx167_2)).trans hx167_2
        replace p167 := eq_true p167
        replace q167 := eq_true q167
        go_wp2_with (first | ((with_reducible refine qp (f := 148) rfl ?_); refine za (some 21) rfl rfl Tryz.func148 yg rfl #[.slice A1 l1.length c1, .agg #[.string ((q9 l0 x13_1).f0), .int .i64 ((q9 l0 x13_1).f1), .string ((q9 l0 x13_1).f2)]] rfl cz ?_; (with_reducible refine (ze.calls k1 _ _ l1 ((q9 l0 x13_1).f0) ((q9 l0 x13_1).f1) ((q9 l0 x13_1).f2) false _ ?side1 ?side2 A7.out).mono ?_); (case side1 => repeat (first | exact (Kd.xh HR1.out HB.out) | (with_reducible refine Kd.xm ?_ _) | (with_reducible refine Kd.xl ?_ _) | (with_reducible refine Kd.xx ?_))); (case side2 => exact HC1.out); rintro e w16 ⟨rfl, hb⟩; refine ⟨_, rfl, ?_⟩; have n0_ := qd.mk (qf cu hb); clear HB; have HB := n0_; clear n0_; (try clear hb); (try clear hb2); (try clear hk); (try clear hi)))
        go_ret
        exact ⟨by first | rfl | (simp [qi, qj] <;> rfl) | (simp [*, qi, qj] <;> rfl), by repeat (first | (with_reducible first | exact HB.out | apply qb | apply qa | apply qc) | exact HB.out)⟩
      ·rw [if_neg c6] at H
       exact absurd H y7
     ·rw [if_neg c5] at H
      exact absurd H y7
    ·rw [if_neg c4] at H
     have c4b0 : decide (x13_1 < (l0.length : Int)) = false := decide_eq_false c4
     clear c4
     obtain rfl := Option.some.inj H
     go_wp2
     go_ret
     exact ⟨by first | rfl | (simp [qi, qj] <;> rfl) | (simp [*, qi, qj] <;> rfl), by repeat (first | (with_reducible first | exact HB.out | apply qb | apply qa | apply qc) | exact HB.out)⟩
 ·rw [if_neg c3] at H
  have c3b0 : ((l0.length : Int) == (l1.length : Int)) = false := beq_eq_false_iff_ne.mpr c3
  have c3b1 : ((l0.length : Int) != (l1.length : Int)) = true := bne_iff_ne.mpr c3
  have c3b2 : (l0.length == l1.length) = false := by first | simpa using c3 | (simp at c3 ⊢; omega)
  obtain rfl := Option.some.inj H
  go_enter Tryz.func120, Tryz.ntmps120
  go_wp2
  go_ret
  exact ⟨by first | rfl | (simp [qi, qj] <;> rfl) | (simp [*, qi, qj] <;> rfl), by repeat (first | (with_reducible first | exact HB.out | apply qb | apply qa | apply qc) | exact HB.out)⟩
end Go.Proofs.YtlamfnaoemingaaGreatDoor.C
end
section
namespace Go.Proofs.YtlamfnaoemingaaGreatDoor.C
open Go.RowKit Go.Proofs.YtlamfnaoemingaaGreatDoorW.PrintWords Go.Proofs.YtlamfnaoemingaaGreatDoorW.PrintLast Go.Proofs.YtlamfnaoemingaaGreatDoorW.PrintMore
attribute [local go_sem] zw zx xe xd zn zp zy zz
set_option linter.unusedVariables false
set_option linter.unusedSimpArgs false
def qw.l0 : Nat → Int → Int → List (List (S83)) → List (List (S83)) → Option (Bool)
 | 0, _, _, _, _ => none
 | k + 1, x15, x16, x172000, x173000 => if x16 < x15 then (if 0 ≤ x16 then (if x16 < (x172000.length : Int) then (if x16 < (x173000.length : Int) then ((zd.f k (rd_L5 x172000 x16) (rd_L5 x173000 x16)).bind fun t175 => (if t175 = true then (qw.l0 k x15 (wrap64 (x16 + 1)) x172000 x173000) else (some false))) else (none)) else (none)) else (none)) else (some true)
def qw.f (k : Nat) (l0_0 : List (List (S83))) (l1_0 : List (List (S83))) : Option (Bool) := if (l1_0.length : Int) > (l0_0.length : Int) then (some false) else (qw.l0 k (l1_0.length : Int) 0 l0_0 l1_0)
theorem qw.zv : ∀ k, (∀ y0 y1 y2 y3, LeO (qw.l0 k y0 y1 y2 y3) (qw.l0 (k + 1) y0 y1 y2 y3))
 | 0 => fun _ _ _ _ r h => by simp [qw.l0] at h
 | k + 1 => by
  have ih0 := qw.zv k
  ·intro y0 y1 y2 y3
   unfold qw.l0
   repeat' first
   | (with_reducible exact ih0 _ _ _ _)
   | (with_reducible exact zd.mono _ _ _)
   | (with_reducible exact LeO.refl _)
   | (with_reducible exact LeO.none _)
   | (with_reducible refine LeO.ite ?_ ?_)
   | (with_reducible refine LeO.bind ?_ (fun _ => ?_))
theorem qw.mono : ∀ a0 a1 k, LeO (qw.f k a0 a1) (qw.f (k + 1) a0 a1) := by
 intro a0 a1 k
 have ih0 := qw.zv k
 unfold qw.f
 repeat' first
   | (with_reducible exact ih0 _ _ _ _)
   | (with_reducible exact zd.mono _ _ _)
   | (with_reducible exact LeO.refl _)
   | (with_reducible exact LeO.none _)
   | (with_reducible refine LeO.ite ?_ ?_)
   | (with_reducible refine LeO.bind ?_ (fun _ => ?_))
def qw.T6 : Bool × List (List Nat × List Nat) := (true, [([], []), ([0], [0]), ([], []), ([1, 2], [1, 2]), ([3], [3]), ([], []), ([5], [5]), ([], []), ([6, 7], [6, 7]), ([8], [8]), ([4, 9], [4, 9]), ([10], [10])])
def qw.B6 : List Nat := [0, 1, 0, 7, 15, 0, 32, 0, 224, 480, 1023, 2047]
theorem qw.tab6 : rtab .any (opsOf Tryz.f86 6) = qw.T6 := by kernel_rfl
theorem qw.bits6 : waitsOk qw.T6.2 qw.B6 = true := by kernel_rfl
set_option maxHeartbeats 8000000 in
set_option maxRecDepth 100000 in
theorem qw.calls (k : Nat) (A0_0 : Option Addr) (c0_0 : Nat) (l0_0 : List (List (S83))) (A1_0 : Option Addr) (c1_0 : Nat) (l1_0 : List (List (S83))) (r : Bool) (w : World) (hr0_0 : Kd.C (Kd.slice 83 k83) w A0_0 l0_0.length l0_0) (hc0_0 : l0_0.length ≤ c0_0) (hr1_0 : Kd.C (Kd.slice 83 k83) w A1_0 l1_0.length l1_0) (hc1_0 : l1_0.length ≤ c1_0) (h : qw.f k l0_0 l1_0 = some r) :
  Calls Tryz.prog 86 #[.agg #[.slice A0_0 l0_0.length c0_0], .agg #[.slice A1_0 l1_0.length c1_0]] w fun e w' => e = .returned (.bool r) ∧ Below w.heap.size w w' := by
 have hu30 := Tryz.underlying30
 have HR0_0 := qd.mk hr0_0
 have HC0_0 := qd.mk hc0_0
 clear hr0_0 hc0_0
 have HR1_0 := qd.mk hr1_0
 have HC1_0 := qd.mk hc1_0
 clear hr1_0 hc1_0
 have HB := qd.mk (Below.refl w.heap.size w)
 have H : (if (l1_0.length : Int) > (l0_0.length : Int) then (some false) else (qw.l0 k (l1_0.length : Int) 0 l0_0 l1_0)) = some r := h
 clear h
 by_cases c3 : (l1_0.length : Int) > (l0_0.length : Int)
 ·rw [if_pos c3] at H
  have c3b0 : decide ((l0_0.length : Int) < (l1_0.length : Int)) = true := decide_eq_true c3
  have c3b1 : decide (l0_0.length < l1_0.length) = true := decide_eq_true (Int.ofNat_lt.mp c3)
  clear c3
  obtain rfl := Option.some.inj H
  go_enter Tryz.func86, Tryz.ntmps86
  go_wp2_with (first | ((with_reducible refine q8 (N := 2) rfl ?_); refine zh ?hg (N := 2) ?hd (cs := #[.slice A0_0 l0_0.length c0_0]) (t := 30) ?hr ?_; (case hd => rfl); (case hg => rfl); (case hr => first | (go_simp; done) | (go_simp; rfl)); intro gb171 hg w4 hbox hb; have n0_ := qd.mk (qf cu hb); have n1_ := qd.mk (hbox); have n2_ := qd.mk ((by rw [hg]; exact (qo cu) : w.heap.size ≤ gb171)); have n3_ := qd.mk ((by rw [hg]; exact (qo cu) : w.heap.size ≤ gb171)); clear HB; have HB := n0_; have BK171 := n1_; have GW171 := n2_; have GE171 := n3_; clear n0_ n1_ n2_ n3_; clear hb hbox hg) | ((with_reducible refine q8 (N := 3) rfl ?_); refine zh ?hg (N := 3) ?hd (cs := #[.slice A1_0 l1_0.length c1_0]) (t := 30) ?hr ?_; (case hd => rfl); (case hg => rfl); (case hr => first | (go_simp; done) | (go_simp; rfl)); intro gb172 hg w5 hbox hb; have n0_ := qd.mk (qx (g := gb171) (o := .cells #[.slice A0_0 l0_0.length c0_0] 30 (0, 0)) yz hb); have n1_ := qd.mk (qf y9 hb); have n2_ := qd.mk (hbox); have n3_ := qd.mk ((by rw [hg]; exact (qo y9) : w.heap.size ≤ gb172)); have n4_ := qd.mk ((by rw [hg]; exact (qo y9) : w.heap.size ≤ gb172)); have n5_ := qd.mk ((by rw [hg]; exact Nat.ne_of_lt (zo (g := gb171) (o := .cells #[.slice A0_0 l0_0.length c0_0] 30 (0, 0)) yz) : gb171 ≠ gb172)); have n6_ := qd.mk ((by rw [hg]; exact Nat.ne_of_gt (zo (g := gb171) (o := .cells #[.slice A0_0 l0_0.length c0_0] 30 (0, 0)) yz) : gb172 ≠ gb171)); clear BK171; clear HB; have BK171 := n0_; have HB := n1_; have BK172 := n2_; have GW172 := n3_; have GE172 := n4_; have NB171_172 := n5_; have NB172_171 := n6_; clear n0_ n1_ n2_ n3_ n4_ n5_ n6_; clear hb hbox hg; have hnb6 := NB172_171.out; have hnc6 := NB171_172.out; have hcz7_0 : w5.cell? ⟨gb172, 0, none⟩ = some (.slice A1_0 l1_0.length c1_0) := (qe BK172.out 0).trans rfl; have hfz7_0 := qg BK172.out 0; have hcz8_0 : w5.cell? ⟨gb171, 0, none⟩ = some (.slice A0_0 l0_0.length c0_0) := (qe BK171.out 0).trans rfl; have hfz8_0 := qg BK171.out 0))
  go_ret
  exact ⟨by first | rfl | (simp [qi, qj] <;> rfl) | (simp [*, qi, qj] <;> rfl), by repeat (first | (with_reducible first | exact HB.out | apply qb | apply qa | apply qc | refine qh ?_ GE171.out | refine qh ?_ GE172.out) | exact HB.out)⟩
 ·rw [if_neg c3] at H
  have c3b0 : decide ((l0_0.length : Int) < (l1_0.length : Int)) = false := decide_eq_false c3
  have c3b1 : decide (l0_0.length < l1_0.length) = false := decide_eq_false (fun h => c3 (Int.ofNat_lt.mpr h))
  clear c3
  have H' := qd.mk H
  clear H
  go_enter Tryz.func86, Tryz.ntmps86
  go_wp2_with (first | ((with_reducible refine q8 (N := 2) rfl ?_); refine zh ?hg (N := 2) ?hd (cs := #[.slice A0_0 l0_0.length c0_0]) (t := 30) ?hr ?_; (case hd => rfl); (case hg => rfl); (case hr => first | (go_simp; done) | (go_simp; rfl)); intro gb171 hg w9 hbox hb; have n0_ := qd.mk (qf cu hb); have n1_ := qd.mk (hbox); have n2_ := qd.mk ((by rw [hg]; exact (qo cu) : w.heap.size ≤ gb171)); have n3_ := qd.mk ((by rw [hg]; exact (qo cu) : w.heap.size ≤ gb171)); clear HB; have HB := n0_; have BK171 := n1_; have GW171 := n2_; have GE171 := n3_; clear n0_ n1_ n2_ n3_; clear hb hbox hg) | ((with_reducible refine q8 (N := 3) rfl ?_); refine zh ?hg (N := 3) ?hd (cs := #[.slice A1_0 l1_0.length c1_0]) (t := 30) ?hr ?_; (case hd => rfl); (case hg => rfl); (case hr => first | (go_simp; done) | (go_simp; rfl)); intro gb172 hg w10 hbox hb; have n0_ := qd.mk (qx (g := gb171) (o := .cells #[.slice A0_0 l0_0.length c0_0] 30 (0, 0)) yz hb); have n1_ := qd.mk (qf y9 hb); have n2_ := qd.mk (hbox); have n3_ := qd.mk ((by rw [hg]; exact (qo y9) : w.heap.size ≤ gb172)); have n4_ := qd.mk ((by rw [hg]; exact (qo y9) : w.heap.size ≤ gb172)); have n5_ := qd.mk ((by rw [hg]; exact Nat.ne_of_lt (zo (g := gb171) (o := .cells #[.slice A0_0 l0_0.length c0_0] 30 (0, 0)) yz) : gb171 ≠ gb172)); have n6_ := qd.mk ((by rw [hg]; exact Nat.ne_of_gt (zo (g := gb171) (o := .cells #[.slice A0_0 l0_0.length c0_0] 30 (0, 0)) yz) : gb172 ≠ gb171)); clear BK171; clear HB; have BK171 := n0_; have HB := n1_; have BK172 := n2_; have GW172 := n3_; have GE172 := n4_; have NB171_172 := n5_; have NB172_171 := n6_; clear n0_ n1_ n2_ n3_ n4_ n5_ n6_; clear hb hbox hg; have hnb11 := NB172_171.out; have hnc11 := NB171_172.out; have hcz12_0 : w10.cell? ⟨gb172, 0, none⟩ = some (.slice A1_0 l1_0.length c1_0) := (qe BK172.out 0).trans rfl; have hfz12_0 := qg BK172.out 0; have hcz13_0 : w10.cell? ⟨gb171, 0, none⟩ = some (.slice A0_0 l0_0.length c0_0) := (qe BK171.out 0).trans rfl; have hfz13_0 := qg BK171.out 0))
  go_loopg [16] k (fun kq v16 w' => ∃ (x16_1 : Int), v16 = .int .i64 x16_1 ∧ qd (qw.l0 kq (l1_0.length : Int) x16_1 l0_0 l1_0 = some r) ∧ qd (kq ≤ k) ∧ qd (w'.heap[gb171]? = some (.cells #[(.slice A0_0 l0_0.length c0_0)] 30 (0, 0))) ∧ qd (w'.heap[gb172]? = some (.cells #[(.slice A1_0 l1_0.length c1_0)] 30 (0, 0))) ∧ qd (Below w.heap.size w w'))
  case atStart => exact ⟨(0), yf, H', ⟨Nat.le_refl _⟩, ⟨by (with_reducible repeat (first | refine qm ?_ _ | refine qn ?_ | refine ql ?_ _)); exact BK171.out⟩, ⟨by (with_reducible repeat (first | refine qm ?_ _ | refine qn ?_ | refine ql ?_ _)); exact BK172.out⟩, ⟨by repeat (first | (with_reducible first | exact HB.out | apply qb | apply qa | apply qc | refine qh ?_ GE171.out | refine qh ?_ GE172.out) | exact HB.out)⟩⟩
  case round =>
   clear H'
   (try clear c1); (try clear p2); (try clear c3); (try clear c3b0); (try clear c3b1); (try clear c6); (try clear c8); (try clear c11); (try clear hcz12_0); (try clear hcz13_0); (try clear hcz7_0); try clear hcz8_0
   (try clear hfz12_0); (try clear hfz13_0); (try clear hfz7_0); try clear hfz8_0
   obtain ⟨x16_1, rfl, HA, HK1, BK171, BK172, HB⟩ := hrel
   cases gk with
   | zero => exact absurd HA.out (by simp [qw.l0])
   | succ k1 =>
    have H := HA.out
    clear HA
    simp only [qw.l0] at H
    by_cases c14 : x16_1 < (l1_0.length : Int)
    ·rw [if_pos c14] at H
     have c14b0 : decide (x16_1 < (l1_0.length : Int)) = true := decide_eq_true c14
     clear c14
     by_cases c15 : 0 ≤ x16_1
     ·rw [if_pos c15] at H
      have c15b0 : decide (0 ≤ x16_1) = true := decide_eq_true c15
      clear c15
      by_cases c16 : x16_1 < (l0_0.length : Int)
      ·rw [if_pos c16] at H
       have c16b0 : decide (x16_1 < (l0_0.length : Int)) = true := decide_eq_true c16
       clear c16
       by_cases c17 : x16_1 < (l1_0.length : Int)
       ·rw [if_pos c17] at H
        have c17b0 : decide (x16_1 < (l1_0.length : Int)) = true := decide_eq_true c17
        clear c17
        replace H := Option.bind_eq_some_iff.mp H
        obtain ⟨t175, A180, H⟩ := H
        replace H : (if t175 = true then (qw.l0 k1 (l1_0.length : Int) (wrap64 (x16_1 + 1)) l0_0 l1_0) else (some false)) = some r := H
        have A18 := qd.mk A180
        clear A180
        by_cases c19 : t175 = true
        ·subst c19
         have H1 : (qw.l0 k1 (l1_0.length : Int) (wrap64 (x16_1 + 1)) l0_0 l1_0) = some r := by rw [if_pos rfl] at H; exact H
         clear H
         have H := H1
         clear H1
         have H' := qd.mk H
         clear H
         try go_wp2
         have n0_ := qd.mk (qn BK171.out)
         have n1_ := qd.mk (qn BK172.out)
         have n2_ := qd.mk (qc HB.out)
         clear BK171
         clear BK172
         clear HB
         have BK171 := n0_
         have BK172 := n1_
         have HB := n2_
         clear n0_ n1_ n2_
         have p173 : 0 ≤ (x16_1 : Int) := of_decide_eq_true yc
         have q173 : x16_1 < (l0_0.length : Int) := of_decide_eq_true yc
         obtain ⟨ad173, A173_0, c173_0, e173, hx173_0, hl173_0, hi173_0⟩ := at_L5 HR0_0.out x16_1 p173 q173
         have hw173_0 := hx173_0
         cases e173
         replace hx173_0 := (HB.out.cell (World.block_lt_of_cell? w _ hx173_0)).trans hx173_0
         have HR173_0 := qd.mk hi173_0
         have HC173_0 := qd.mk hl173_0
         clear hi173_0 hl173_0
         replace p173 := eq_true p173
         replace q173 := eq_true q173
         have p174 : 0 ≤ (x16_1 : Int) := of_decide_eq_true yc
         have q174 : x16_1 < (l1_0.length : Int) := of_decide_eq_true yc
         obtain ⟨ad174, A174_0, c174_0, e174, hx174_0, hl174_0, hi174_0⟩ := at_L5 HR1_0.out x16_1 p174 q174
         have hw174_0 := hx174_0
         cases e174
         replace hx174_0 := (HB.out.cell (World.block_lt_of_cell? w _ hx174_0)).trans hx174_0
         have HR174_0 := qd.mk hi174_0
         have HC174_0 := qd.mk hl174_0
         clear hi174_0 hl174_0
         replace p174 := eq_true p174
         replace q174 := eq_true q174
         refine start_ (n := 12) (S := fun w' => w'.cell? ⟨gb171, 0, none⟩ = some (.slice (some ad173) l0_0.length c0_0) ∧ w'.cell? ⟨gb172, 0, none⟩ = some (.slice (some ad174) l1_0.length c1_0) ∧ w'.cell? (ad173.add (x16_1).toNat) = some (.slice A173_0 (rd_L5 l0_0 x16_1).length c173_0) ∧ w'.cell? (ad174.add (x16_1).toNat) = some (.slice A174_0 (rd_L5 l1_0 x16_1).length c174_0)) (ds := []) #[false, false, false, false, false, false, false, false, false, false, false, false] yg rfl rfl ⟨(qe BK171.out 0).trans rfl, (qe BK172.out 0).trans rfl, ((HB.out.cell (World.block_lt_of_cell? w _ hw173_0)).trans hw173_0), ((HB.out.cell (World.block_lt_of_cell? w _ hw174_0)).trans hw174_0)⟩ (fun hHeld => ?_); refine with_tabW qw.tab6 qw.bits6 (fun HT_ HW_ => ?_)
         generalize wr.drew = w20 at BK171 BK172 HB HR173_0 HR174_0 hx173_0 hx174_0 hHeld ⊢
         refine xf (i := 0) (N := some 19) (v := ?_) (a' := ?_) #[true, false, false, false, false, false, false, false, false, false, false, false] rfl rfl (xw HT_.out yg) (fun _ _ _ h => h) (Or.inl ⟨by rfl, ?_⟩) ?_ ?_
         rotate_left
         ·intro w'
          go_simp
          with_reducible rfl
         rotate_left
         ·simp only [Act.put, List.setIfInBounds_toArray, List.set_cons_zero, List.set_cons_succ, zg, zi]
          rfl
         refine xf (i := 2) (N := some 21) (v := ?_) (a' := ?_) #[true, false, true, false, false, false, false, false, false, false, false, false] rfl rfl (xw HT_.out yg) (fun _ _ _ h => h) (Or.inl ⟨by rfl, ?_⟩) ?_ ?_
         rotate_left
         ·intro w'
          go_simp
          with_reducible rfl
         rotate_left
         ·simp only [Act.put, List.setIfInBounds_toArray, List.set_cons_zero, List.set_cons_succ, zg, zi]
          rfl
         refine xf (i := 5) (N := some 24) (v := ?_) (a' := ?_) #[true, false, true, false, false, true, false, false, false, false, false, false] rfl rfl (xw HT_.out yg) (fun _ _ _ h => h) (Or.inl ⟨by rfl, ?_⟩) ?_ ?_
         rotate_left
         ·intro w'
          go_simp
          with_reducible rfl
         rotate_left
         ·simp only [Act.put, List.setIfInBounds_toArray, List.set_cons_zero, List.set_cons_succ, zg, zi]
          rfl
         refine xf (i := 7) (N := some 26) (v := ?_) (a' := ?_) #[true, false, true, false, false, true, false, true, false, false, false, false] rfl rfl (xw HT_.out yg) (fun _ _ _ h => h) (Or.inl ⟨by rfl, ?_⟩) ?_ ?_
         rotate_left
         ·intro w'
          go_simp
          with_reducible rfl
         rotate_left
         ·simp only [Act.put, List.setIfInBounds_toArray, List.set_cons_zero, List.set_cons_succ, zg, zi]
          rfl
         refine take_ (i := 1) (N := some 20) (v := ?_) (a' := ?_) #[true, true, true, false, false, true, false, true, false, false, false, false] rfl rfl (xu HT_.out HW_.out yg) (fun _ _ _ h => h) (Or.inl ⟨by rfl, ?_⟩) hHeld ?_ ?_
         rotate_left
         ·rintro w' ⟨s0, s1, s2, s3⟩
          go_simp
          with_reducible rfl
         rotate_left
         ·simp only [Act.put, List.setIfInBounds_toArray, List.set_cons_zero, List.set_cons_succ, zg, zi]
          rfl
         refine xf (i := 3) (N := some 22) (v := ?_) (a' := ?_) #[true, true, true, true, false, true, false, true, false, false, false, false] rfl rfl (xw HT_.out yg) (fun _ _ _ h => h) (Or.inl ⟨by rfl, ?_⟩) ?_ ?_
         rotate_left
         ·intro w'
          go_simp
          with_reducible rfl
         rotate_left
         ·simp only [Act.put, List.setIfInBounds_toArray, List.set_cons_zero, List.set_cons_succ, zg, zi]
          rfl
         refine take_ (i := 4) (N := some 23) (v := ?_) (a' := ?_) #[true, true, true, true, true, true, false, true, false, false, false, false] rfl rfl (xu HT_.out HW_.out yg) (fun _ _ _ h => h) (Or.inl ⟨by rfl, ?_⟩) hHeld ?_ ?_
         rotate_left
         ·rintro w' ⟨s0, s1, s2, s3⟩
          go_simp
          with_reducible rfl
         rotate_left
         ·simp only [Act.put, List.setIfInBounds_toArray, List.set_cons_zero, List.set_cons_succ, zg, zi]
          rfl
         refine take_ (i := 6) (N := some 25) (v := ?_) (a' := ?_) #[true, true, true, true, true, true, true, true, false, false, false, false] rfl rfl (xu HT_.out HW_.out yg) (fun _ _ _ h => h) (Or.inl ⟨by rfl, ?_⟩) hHeld ?_ ?_
         rotate_left
         ·rintro w' ⟨s0, s1, s2, s3⟩
          go_simp
          with_reducible rfl
         rotate_left
         ·simp only [Act.put, List.setIfInBounds_toArray, List.set_cons_zero, List.set_cons_succ, zg, zi]
          rfl
         refine xf (i := 8) (N := some 27) (v := ?_) (a' := ?_) #[true, true, true, true, true, true, true, true, true, false, false, false] rfl rfl (xw HT_.out yg) (fun _ _ _ h => h) (Or.inl ⟨by rfl, ?_⟩) ?_ ?_
         rotate_left
         ·intro w'
          go_simp
          with_reducible rfl
         rotate_left
         ·simp only [Act.put, List.setIfInBounds_toArray, List.set_cons_zero, List.set_cons_succ, zg, zi]
          rfl
         refine take_ (i := 9) (N := some 28) (v := ?_) (a' := ?_) #[true, true, true, true, true, true, true, true, true, true, false, false] rfl rfl (xu HT_.out HW_.out yg) (fun _ _ _ h => h) (Or.inl ⟨by rfl, ?_⟩) hHeld ?_ ?_
         rotate_left
         ·rintro w' ⟨s0, s1, s2, s3⟩
          go_simp
          with_reducible rfl
         rotate_left
         ·simp only [Act.put, List.setIfInBounds_toArray, List.set_cons_zero, List.set_cons_succ, zg, zi]
          rfl
         refine one_ (i := 10) (N := some 29) #[true, true, true, true, true, true, true, true, true, true, true, false] rfl rfl (one_of HT_.out yg) (by decide) (fun K hK => ?_)
         refine goes_ Tryz.func120 yg rfl #[.slice A173_0 (rd_L5 l0_0 x16_1).length c173_0, .slice A174_0 (rd_L5 l1_0 x16_1).length c174_0] (by rfl) rfl rfl cz ?_
         with_reducible refine (zd.calls k1 _ _ (rd_L5 l0_0 x16_1) _ _ (rd_L5 l1_0 x16_1) true _ ?side1 ?side2 ?side3 ?side4 A18.out).mono ?_
         (case side1 => repeat (first | exact (Kd.xh HR173_0.out HB.out) | (with_reducible refine Kd.xm ?_ _) | (with_reducible refine Kd.xl ?_ _) | (with_reducible refine Kd.xx ?_)))
         (case side2 => exact HC173_0.out)
         (case side3 => repeat (first | exact (Kd.xh HR174_0.out HB.out) | (with_reducible refine Kd.xm ?_ _) | (with_reducible refine Kd.xl ?_ _) | (with_reducible refine Kd.xx ?_)))
         (case side4 => exact HC174_0.out)
         rintro e w21 ⟨rfl, hb⟩
         refine ⟨_, rfl, ?_⟩
         have n0_ := qd.mk (qx (g := gb171) (o := .cells #[.slice (some ad173) l0_0.length c0_0] 30 (0, 0)) yz hb)
         have n1_ := qd.mk (qx (g := gb172) (o := .cells #[.slice (some ad174) l1_0.length c1_0] 30 (0, 0)) (by (with_reducible repeat (first | refine qm ?_ _ | refine qn ?_ | refine ql ?_ _)); exact BK172.out) hb)
         have n2_ := qd.mk (qf uu hb)
         clear BK171
         clear BK172
         clear HB
         have BK171 := n0_
         have BK172 := n1_
         have HB := n2_
         clear n0_ n1_ n2_
         (try clear hb)
         (try clear hb2)
         (try clear hk)
         (try clear hi)
         refine hK.out _ _ ⟨(qe BK171.out 0).trans rfl, (qe BK172.out 0).trans rfl, ((HB.out.cell (World.block_lt_of_cell? w _ hw173_0)).trans hw173_0), ((HB.out.cell (World.block_lt_of_cell? w _ hw174_0)).trans hw174_0)⟩ (fun hHeld => ?_)
         clear hK K
         refine norm_ (a' := ?_) ?_ ?_
         rotate_left
         ·show Act.put _ (some 29) _ = _
          simp only [Act.put, List.setIfInBounds_toArray, List.set_cons_zero, List.set_cons_succ, zg, zi]
          rfl
         refine xf (i := 11) (N := some 30) (v := ?_) (a' := ?_) #[true, true, true, true, true, true, true, true, true, true, true, true] rfl rfl (xw HT_.out yg) (fun _ _ _ h => h) (Or.inl ⟨by rfl, ?_⟩) ?_ ?_
         rotate_left
         ·intro w'
          go_simp
          with_reducible rfl
         rotate_left
         ·simp only [Act.put, List.setIfInBounds_toArray, List.set_cons_zero, List.set_cons_succ, zg, zi]
          rfl
         refine done_ (done_of HT_.out yg) ?_
         try go_wp2
         go_roundg k1
         case measure => have := HK1.out; omega
         case rel => exact ⟨(wrap64 (x16_1 + 1)), yf, H', ⟨by have := HK1.out; omega⟩, ⟨by (with_reducible repeat (first | refine qm ?_ _ | refine qn ?_ | refine ql ?_ _)); exact BK171.out⟩, ⟨by (with_reducible repeat (first | refine qm ?_ _ | refine qn ?_ | refine ql ?_ _)); exact BK172.out⟩, ⟨by repeat (first | (with_reducible first | exact HB.out | apply qb | apply qa | apply qc | refine qh ?_ GE171.out | refine qh ?_ GE172.out) | exact HB.out)⟩⟩
        ·replace c19 := Bool.eq_false_iff.mpr c19
         subst c19
         have H1 : (some false) = some r := by rw [if_neg (show ¬ (false = true) by decide)] at H; exact H
         clear H
         have H := H1
         clear H1
         obtain rfl := Option.some.inj H
         try go_wp2
         have n0_ := qd.mk (qn BK171.out)
         have n1_ := qd.mk (qn BK172.out)
         have n2_ := qd.mk (qc HB.out)
         clear BK171
         clear BK172
         clear HB
         have BK171 := n0_
         have BK172 := n1_
         have HB := n2_
         clear n0_ n1_ n2_
         have p173 : 0 ≤ (x16_1 : Int) := of_decide_eq_true yc
         have q173 : x16_1 < (l0_0.length : Int) := of_decide_eq_true yc
         obtain ⟨ad173, A173_0, c173_0, e173, hx173_0, hl173_0, hi173_0⟩ := at_L5 HR0_0.out x16_1 p173 q173
         have hw173_0 := hx173_0
         cases e173
         replace hx173_0 := (HB.out.cell (World.block_lt_of_cell? w _ hx173_0)).trans hx173_0
         have HR173_0 := qd.mk hi173_0
         have HC173_0 := qd.mk hl173_0
         clear hi173_0 hl173_0
         replace p173 := eq_true p173
         replace q173 := eq_true q173
         have p174 : 0 ≤ (x16_1 : Int) := of_decide_eq_true yc
         have q174 : x16_1 < (l1_0.length : Int) := of_decide_eq_true yc
         obtain ⟨ad174, A174_0, c174_0, e174, hx174_0, hl174_0, hi174_0⟩ := at_L5 HR1_0.out x16_1 p174 q174
         have hw174_0 := hx174_0
         cases e174
         replace hx174_0 := (HB.out.cell (World.block_lt_of_cell? w _ hx174_0)).trans hx174_0
         have HR174_0 := qd.mk hi174_0
         have HC174_0 := qd.mk hl174_0
         clear hi174_0 hl174_0
         replace p174 := eq_true p174
         replace q174 := eq_true q174
         refine start_ (n := 12) (S := fun w' => w'.cell? ⟨gb171, 0, none⟩ = some (.slice (some ad173) l0_0.length c0_0) ∧ w'.cell? ⟨gb172, 0, none⟩ = some (.slice (some ad174) l1_0.length c1_0) ∧ w'.cell? (ad173.add (x16_1).toNat) = some (.slice A173_0 (rd_L5 l0_0 x16_1).length c173_0) ∧ w'.cell? (ad174.add (x16_1).toNat) = some (.slice A174_0 (rd_L5 l1_0 x16_1).length c174_0)) (ds := []) #[false, false, false, false, false, false, false, false, false, false, false, false] yg rfl rfl ⟨(qe BK171.out 0).trans rfl, (qe BK172.out 0).trans rfl, ((HB.out.cell (World.block_lt_of_cell? w _ hw173_0)).trans hw173_0), ((HB.out.cell (World.block_lt_of_cell? w _ hw174_0)).trans hw174_0)⟩ (fun hHeld => ?_); refine with_tabW qw.tab6 qw.bits6 (fun HT_ HW_ => ?_)
         generalize wr.drew = w22 at BK171 BK172 HB HR173_0 HR174_0 hx173_0 hx174_0 hHeld ⊢
         refine xf (i := 0) (N := some 19) (v := ?_) (a' := ?_) #[true, false, false, false, false, false, false, false, false, false, false, false] rfl rfl (xw HT_.out yg) (fun _ _ _ h => h) (Or.inl ⟨by rfl, ?_⟩) ?_ ?_
         rotate_left
         ·intro w'
          go_simp
          with_reducible rfl
         rotate_left
         ·simp only [Act.put, List.setIfInBounds_toArray, List.set_cons_zero, List.set_cons_succ, zg, zi]
          rfl
         refine xf (i := 2) (N := some 21) (v := ?_) (a' := ?_) #[true, false, true, false, false, false, false, false, false, false, false, false] rfl rfl (xw HT_.out yg) (fun _ _ _ h => h) (Or.inl ⟨by rfl, ?_⟩) ?_ ?_
         rotate_left
         ·intro w'
          go_simp
          with_reducible rfl
         rotate_left
         ·simp only [Act.put, List.setIfInBounds_toArray, List.set_cons_zero, List.set_cons_succ, zg, zi]
          rfl
         refine xf (i := 5) (N := some 24) (v := ?_) (a' := ?_) #[true, false, true, false, false, true, false, false, false, false, false, false] rfl rfl (xw HT_.out yg) (fun _ _ _ h => h) (Or.inl ⟨by rfl, ?_⟩) ?_ ?_
         rotate_left
         ·intro w'
          go_simp
          with_reducible rfl
         rotate_left
         ·simp only [Act.put, List.setIfInBounds_toArray, List.set_cons_zero, List.set_cons_succ, zg, zi]
          rfl
         refine xf (i := 7) (N := some 26) (v := ?_) (a' := ?_) #[true, false, true, false, false, true, false, true, false, false, false, false] rfl rfl (xw HT_.out yg) (fun _ _ _ h => h) (Or.inl ⟨by rfl, ?_⟩) ?_ ?_
         rotate_left
         ·intro w'
          go_simp
          with_reducible rfl
         rotate_left
         ·simp only [Act.put, List.setIfInBounds_toArray, List.set_cons_zero, List.set_cons_succ, zg, zi]
          rfl
         refine take_ (i := 1) (N := some 20) (v := ?_) (a' := ?_) #[true, true, true, false, false, true, false, true, false, false, false, false] rfl rfl (xu HT_.out HW_.out yg) (fun _ _ _ h => h) (Or.inl ⟨by rfl, ?_⟩) hHeld ?_ ?_
         rotate_left
         ·rintro w' ⟨s0, s1, s2, s3⟩
          go_simp
          with_reducible rfl
         rotate_left
         ·simp only [Act.put, List.setIfInBounds_toArray, List.set_cons_zero, List.set_cons_succ, zg, zi]
          rfl
         refine xf (i := 3) (N := some 22) (v := ?_) (a' := ?_) #[true, true, true, true, false, true, false, true, false, false, false, false] rfl rfl (xw HT_.out yg) (fun _ _ _ h => h) (Or.inl ⟨by rfl, ?_⟩) ?_ ?_
         rotate_left
         ·intro w'
          go_simp
          with_reducible rfl
         rotate_left
         ·simp only [Act.put, List.setIfInBounds_toArray, List.set_cons_zero, List.set_cons_succ, zg, zi]
          rfl
         refine take_ (i := 4) (N := some 23) (v := ?_) (a' := ?_) #[true, true, true, true, true, true, false, true, false, false, false, false] rfl rfl (xu HT_.out HW_.out yg) (fun _ _ _ h => h) (Or.inl ⟨by rfl, ?_⟩) hHeld ?_ ?_
         rotate_left
         ·rintro w' ⟨s0, s1, s2, s3⟩
          go_simp
          with_reducible rfl
         rotate_left
         ·simp only [Act.put, List.setIfInBounds_toArray, List.set_cons_zero, List.set_cons_succ, zg, zi]
          rfl
         refine take_ (i := 6) (N := some 25) (v := ?_) (a' := ?_) #[true, true, true, true, true, true, true, true, false, false, false, false] rfl rfl (xu HT_.out HW_.out yg) (fun _ _ _ h => h) (Or.inl ⟨by rfl, ?_⟩) hHeld ?_ ?_
         rotate_left
         ·rintro w' ⟨s0, s1, s2, s3⟩
          go_simp
          with_reducible rfl
         rotate_left
         ·simp only [Act.put, List.setIfInBounds_toArray, List.set_cons_zero, List.set_cons_succ, zg, zi]
          rfl
         refine xf (i := 8) (N := some 27) (v := ?_) (a' := ?_) #[true, true, true, true, true, true, true, true, true, false, false, false] rfl rfl (xw HT_.out yg) (fun _ _ _ h => h) (Or.inl ⟨by rfl, ?_⟩) ?_ ?_
         rotate_left
         ·intro w'
          go_simp
          with_reducible rfl
         rotate_left
         ·simp only [Act.put, List.setIfInBounds_toArray, List.set_cons_zero, List.set_cons_succ, zg, zi]
          rfl
         refine take_ (i := 9) (N := some 28) (v := ?_) (a' := ?_) #[true, true, true, true, true, true, true, true, true, true, false, false] rfl rfl (xu HT_.out HW_.out yg) (fun _ _ _ h => h) (Or.inl ⟨by rfl, ?_⟩) hHeld ?_ ?_
         rotate_left
         ·rintro w' ⟨s0, s1, s2, s3⟩
          go_simp
          with_reducible rfl
         rotate_left
         ·simp only [Act.put, List.setIfInBounds_toArray, List.set_cons_zero, List.set_cons_succ, zg, zi]
          rfl
         refine one_ (i := 10) (N := some 29) #[true, true, true, true, true, true, true, true, true, true, true, false] rfl rfl (one_of HT_.out yg) (by decide) (fun K hK => ?_)
         refine goes_ Tryz.func120 yg rfl #[.slice A173_0 (rd_L5 l0_0 x16_1).length c173_0, .slice A174_0 (rd_L5 l1_0 x16_1).length c174_0] (by rfl) rfl rfl cz ?_
         with_reducible refine (zd.calls k1 _ _ (rd_L5 l0_0 x16_1) _ _ (rd_L5 l1_0 x16_1) false _ ?side1 ?side2 ?side3 ?side4 A18.out).mono ?_
         (case side1 => repeat (first | exact (Kd.xh HR173_0.out HB.out) | (with_reducible refine Kd.xm ?_ _) | (with_reducible refine Kd.xl ?_ _) | (with_reducible refine Kd.xx ?_)))
         (case side2 => exact HC173_0.out)
         (case side3 => repeat (first | exact (Kd.xh HR174_0.out HB.out) | (with_reducible refine Kd.xm ?_ _) | (with_reducible refine Kd.xl ?_ _) | (with_reducible refine Kd.xx ?_)))
         (case side4 => exact HC174_0.out)
         rintro e w23 ⟨rfl, hb⟩
         refine ⟨_, rfl, ?_⟩
         have n0_ := qd.mk (qx (g := gb171) (o := .cells #[.slice (some ad173) l0_0.length c0_0] 30 (0, 0)) yz hb)
         have n1_ := qd.mk (qx (g := gb172) (o := .cells #[.slice (some ad174) l1_0.length c1_0] 30 (0, 0)) (by (with_reducible repeat (first | refine qm ?_ _ | refine qn ?_ | refine ql ?_ _)); exact BK172.out) hb)
         have n2_ := qd.mk (qf uu hb)
         clear BK171
         clear BK172
         clear HB
         have BK171 := n0_
         have BK172 := n1_
         have HB := n2_
         clear n0_ n1_ n2_
         (try clear hb)
         (try clear hb2)
         (try clear hk)
         (try clear hi)
         refine hK.out _ _ ⟨(qe BK171.out 0).trans rfl, (qe BK172.out 0).trans rfl, ((HB.out.cell (World.block_lt_of_cell? w _ hw173_0)).trans hw173_0), ((HB.out.cell (World.block_lt_of_cell? w _ hw174_0)).trans hw174_0)⟩ (fun hHeld => ?_)
         clear hK K
         refine norm_ (a' := ?_) ?_ ?_
         rotate_left
         ·show Act.put _ (some 29) _ = _
          simp only [Act.put, List.setIfInBounds_toArray, List.set_cons_zero, List.set_cons_succ, zg, zi]
          rfl
         refine xf (i := 11) (N := some 30) (v := ?_) (a' := ?_) #[true, true, true, true, true, true, true, true, true, true, true, true] rfl rfl (xw HT_.out yg) (fun _ _ _ h => h) (Or.inl ⟨by rfl, ?_⟩) ?_ ?_
         rotate_left
         ·intro w'
          go_simp
          with_reducible rfl
         rotate_left
         ·simp only [Act.put, List.setIfInBounds_toArray, List.set_cons_zero, List.set_cons_succ, zg, zi]
          rfl
         refine done_ (done_of HT_.out yg) ?_
         try go_wp2
         go_ret
         exact ⟨by first | rfl | (simp [qi, qj] <;> rfl) | (simp [*, qi, qj] <;> rfl), by repeat (first | (with_reducible first | exact HB.out | apply qb | apply qa | apply qc | refine qh ?_ GE171.out | refine qh ?_ GE172.out) | exact HB.out)⟩
       ·rw [if_neg c17] at H
        exact absurd H y7
      ·rw [if_neg c16] at H
       exact absurd H y7
     ·rw [if_neg c15] at H
      exact absurd H y7
    ·rw [if_neg c14] at H
     have c14b0 : decide (x16_1 < (l1_0.length : Int)) = false := decide_eq_false c14
     clear c14
     obtain rfl := Option.some.inj H
     go_wp2
     go_ret
     exact ⟨by first | rfl | (simp [qi, qj] <;> rfl) | (simp [*, qi, qj] <;> rfl), by repeat (first | (with_reducible first | exact HB.out | apply qb | apply qa | apply qc | refine qh ?_ GE171.out | refine qh ?_ GE172.out) | exact HB.out)⟩
end Go.Proofs.YtlamfnaoemingaaGreatDoor.C
end
section
namespace Go.Proofs.YtlamfnaoemingaaGreatDoor.C
open Go.RowKit Go.Proofs.YtlamfnaoemingaaGreatDoorW.PrintWords Go.Proofs.YtlamfnaoemingaaGreatDoorW.PrintLast Go.Proofs.YtlamfnaoemingaaGreatDoorW.PrintMore
attribute [local go_sem] zw zx xe xd zn zp zy zz
set_option linter.unusedVariables false
set_option linter.unusedSimpArgs false
def xb.f (k : Nat) (l0_0 : List (List (S83))) (l1_0 : List (List (S83))) : Option (Bool) := if (l0_0.length : Int) = (l1_0.length : Int) then ((qw.f k l0_0 l1_0).bind fun t178 => (some t178)) else (some false)
theorem xb.mono : ∀ a0 a1 k, LeO (xb.f k a0 a1) (xb.f (k + 1) a0 a1) := by
 intro a0 a1 k
 unfold xb.f
 repeat' first
   | (with_reducible exact qw.mono _ _ _)
   | (with_reducible exact LeO.refl _)
   | (with_reducible exact LeO.none _)
   | (with_reducible refine LeO.ite ?_ ?_)
   | (with_reducible refine LeO.bind ?_ (fun _ => ?_))
set_option maxHeartbeats 8000000 in
set_option maxRecDepth 100000 in
theorem xb.calls (k : Nat) (A0_0 : Option Addr) (c0_0 : Nat) (l0_0 : List (List (S83))) (A1_0 : Option Addr) (c1_0 : Nat) (l1_0 : List (List (S83))) (r : Bool) (w : World) (hr0_0 : Kd.C (Kd.slice 83 k83) w A0_0 l0_0.length l0_0) (hc0_0 : l0_0.length ≤ c0_0) (hr1_0 : Kd.C (Kd.slice 83 k83) w A1_0 l1_0.length l1_0) (hc1_0 : l1_0.length ≤ c1_0) (h : xb.f k l0_0 l1_0 = some r) :
  Calls Tryz.prog 78 #[.agg #[.slice A0_0 l0_0.length c0_0], .agg #[.slice A1_0 l1_0.length c1_0]] w fun e w' => e = .returned (.bool r) ∧ Below w.heap.size w w' := by
 have hu30 := Tryz.underlying30
 have HR0_0 := qd.mk hr0_0
 have HC0_0 := qd.mk hc0_0
 clear hr0_0 hc0_0
 have HR1_0 := qd.mk hr1_0
 have HC1_0 := qd.mk hc1_0
 clear hr1_0 hc1_0
 have HB := qd.mk (Below.refl w.heap.size w)
 have H : (if (l0_0.length : Int) = (l1_0.length : Int) then ((qw.f k l0_0 l1_0).bind fun t178 => (some t178)) else (some false)) = some r := h
 clear h
 by_cases c3 : (l0_0.length : Int) = (l1_0.length : Int)
 ·rw [if_pos c3] at H
  have c3b0 : ((l0_0.length : Int) == (l1_0.length : Int)) = true := beq_iff_eq.mpr c3
  have c3b1 : ((l0_0.length : Int) != (l1_0.length : Int)) = false := bne_eq_false_iff_eq.mpr c3
  have c3b2 : (l0_0.length == l1_0.length) = true := by first | simpa using c3 | (simp at c3 ⊢; omega)
  clear c3
  replace H := Option.bind_eq_some_iff.mp H
  obtain ⟨t178, A40, H⟩ := H
  replace H : (some t178) = some r := H
  have A4 := qd.mk A40
  clear A40
  obtain rfl := Option.some.inj H
  go_enter Tryz.func78, Tryz.ntmps78
  go_wp2_with (first | ((with_reducible refine q8 (N := 2) rfl ?_); refine zh ?hg (N := 2) ?hd (cs := #[.slice A0_0 l0_0.length c0_0]) (t := 30) ?hr ?_; (case hd => rfl); (case hg => rfl); (case hr => first | (go_simp; done) | (go_simp; rfl)); intro gb176 hg w5 hbox hb; have n0_ := qd.mk (qf cu hb); have n1_ := qd.mk (hbox); have n2_ := qd.mk ((by rw [hg]; exact (qo cu) : w.heap.size ≤ gb176)); have n3_ := qd.mk ((by rw [hg]; exact (qo cu) : w.heap.size ≤ gb176)); clear HB; have HB := n0_; have BK176 := n1_; have GW176 := n2_; have GE176 := n3_; clear n0_ n1_ n2_ n3_; clear hb hbox hg) | ((with_reducible refine q8 (N := 3) rfl ?_); refine zh ?hg (N := 3) ?hd (cs := #[.slice A1_0 l1_0.length c1_0]) (t := 30) ?hr ?_; (case hd => rfl); (case hg => rfl); (case hr => first | (go_simp; done) | (go_simp; rfl)); intro gb177 hg w6 hbox hb; have n0_ := qd.mk (qx (g := gb176) (o := .cells #[.slice A0_0 l0_0.length c0_0] 30 (0, 0)) uf hb); have n1_ := qd.mk (qf y8 hb); have n2_ := qd.mk (hbox); have n3_ := qd.mk ((by rw [hg]; exact (qo y8) : w.heap.size ≤ gb177)); have n4_ := qd.mk ((by rw [hg]; exact (qo y8) : w.heap.size ≤ gb177)); have n5_ := qd.mk ((by rw [hg]; exact Nat.ne_of_lt (zo (g := gb176) (o := .cells #[.slice A0_0 l0_0.length c0_0] 30 (0, 0)) uf) : gb176 ≠ gb177)); have n6_ := qd.mk ((by rw [hg]; exact Nat.ne_of_gt (zo (g := gb176) (o := .cells #[.slice A0_0 l0_0.length c0_0] 30 (0, 0)) uf) : gb177 ≠ gb176)); clear BK176; clear HB; have BK176 := n0_; have HB := n1_; have BK177 := n2_; have GW177 := n3_; have GE177 := n4_; have NB176_177 := n5_; have NB177_176 := n6_; clear n0_ n1_ n2_ n3_ n4_ n5_ n6_; clear hb hbox hg; have hnb7 := NB176_177.out; have hnc7 := NB177_176.out; have hcz8_0 : w6.cell? ⟨gb176, 0, none⟩ = some (.slice A0_0 l0_0.length c0_0) := (qe BK176.out 0).trans rfl; have hfz8_0 := qg BK176.out 0; have hcz9_0 : w6.cell? ⟨gb177, 0, none⟩ = some (.slice A1_0 l1_0.length c1_0) := (qe BK177.out 0).trans rfl; have hfz9_0 := qg BK177.out 0) | (go_at_call 86; (with_reducible refine (qw.calls k _ _ l0_0 _ _ l1_0 t178 _ ?side1 ?side2 ?side3 ?side4 A4.out).mono ?_); (case side1 => repeat (first | exact (Kd.xh HR0_0.out HB.out) | (with_reducible refine Kd.xm ?_ _) | (with_reducible refine Kd.xl ?_ _) | (with_reducible refine Kd.xx ?_))); (case side2 => exact HC0_0.out); (case side3 => repeat (first | exact (Kd.xh HR1_0.out HB.out) | (with_reducible refine Kd.xm ?_ _) | (with_reducible refine Kd.xl ?_ _) | (with_reducible refine Kd.xx ?_))); (case side4 => exact HC1_0.out); rintro e w10 ⟨rfl, hb⟩; have n0_ := qd.mk (qx (g := gb176) (o := .cells #[.slice A0_0 l0_0.length c0_0] 30 (0, 0)) uf hb); have n1_ := qd.mk (qx (g := gb177) (o := .cells #[.slice A1_0 l1_0.length c1_0] 30 (0, 0)) (by (with_reducible repeat (first | refine qm ?_ _ | refine qn ?_ | refine ql ?_ _)); exact BK177.out) hb); have n2_ := qd.mk (qf (by repeat (first | (with_reducible first | exact HB.out | apply qb | apply qa | apply qc | refine qh ?_ GE176.out | refine qh ?_ GE177.out) | exact HB.out)) hb); clear BK176; clear BK177; clear HB; have BK176 := n0_; have BK177 := n1_; have HB := n2_; clear n0_ n1_ n2_; (try clear hb); (try clear hb2); (try clear hk); (try clear hi)))
  go_ret
  exact ⟨by first | rfl | (simp [qi, qj] <;> rfl) | (simp [*, qi, qj] <;> rfl), by repeat (first | (with_reducible first | exact HB.out | apply qb | apply qa | apply qc | refine qh ?_ GE176.out | refine qh ?_ GE177.out) | exact HB.out)⟩
 ·rw [if_neg c3] at H
  have c3b0 : ((l0_0.length : Int) == (l1_0.length : Int)) = false := beq_eq_false_iff_ne.mpr c3
  have c3b1 : ((l0_0.length : Int) != (l1_0.length : Int)) = true := bne_iff_ne.mpr c3
  have c3b2 : (l0_0.length == l1_0.length) = false := by first | simpa using c3 | (simp at c3 ⊢; omega)
  obtain rfl := Option.some.inj H
  go_enter Tryz.func78, Tryz.ntmps78
  go_wp2_with (first | ((with_reducible refine q8 (N := 2) rfl ?_); refine zh ?hg (N := 2) ?hd (cs := #[.slice A0_0 l0_0.length c0_0]) (t := 30) ?hr ?_; (case hd => rfl); (case hg => rfl); (case hr => first | (go_simp; done) | (go_simp; rfl)); intro gb176 hg w11 hbox hb; have n0_ := qd.mk (qf cu hb); have n1_ := qd.mk (hbox); have n2_ := qd.mk ((by rw [hg]; exact (qo cu) : w.heap.size ≤ gb176)); have n3_ := qd.mk ((by rw [hg]; exact (qo cu) : w.heap.size ≤ gb176)); clear HB; have HB := n0_; have BK176 := n1_; have GW176 := n2_; have GE176 := n3_; clear n0_ n1_ n2_ n3_; clear hb hbox hg) | ((with_reducible refine q8 (N := 3) rfl ?_); refine zh ?hg (N := 3) ?hd (cs := #[.slice A1_0 l1_0.length c1_0]) (t := 30) ?hr ?_; (case hd => rfl); (case hg => rfl); (case hr => first | (go_simp; done) | (go_simp; rfl)); intro gb177 hg w12 hbox hb; have n0_ := qd.mk (qx (g := gb176) (o := .cells #[.slice A0_0 l0_0.length c0_0] 30 (0, 0)) uf hb); have n1_ := qd.mk (qf y8 hb); have n2_ := qd.mk (hbox); have n3_ := qd.mk ((by rw [hg]; exact (qo y8) : w.heap.size ≤ gb177)); have n4_ := qd.mk ((by rw [hg]; exact (qo y8) : w.heap.size ≤ gb177)); have n5_ := qd.mk ((by rw [hg]; exact Nat.ne_of_lt (zo (g := gb176) (o := .cells #[.slice A0_0 l0_0.length c0_0] 30 (0, 0)) uf) : gb176 ≠ gb177)); have n6_ := qd.mk ((by rw [hg]; exact Nat.ne_of_gt (zo (g := gb176) (o := .cells #[.slice A0_0 l0_0.length c0_0] 30 (0, 0)) uf) : gb177 ≠ gb176)); clear BK176; clear HB; have BK176 := n0_; have HB := n1_; have BK177 := n2_; have GW177 := n3_; have GE177 := n4_; have NB176_177 := n5_; have NB177_176 := n6_; clear n0_ n1_ n2_ n3_ n4_ n5_ n6_; clear hb hbox hg; have hnb13 := NB176_177.out; have hnc13 := NB177_176.out; have hcz14_0 : w12.cell? ⟨gb176, 0, none⟩ = some (.slice A0_0 l0_0.length c0_0) := (qe BK176.out 0).trans rfl; have hfz14_0 := qg BK176.out 0; have hcz15_0 : w12.cell? ⟨gb177, 0, none⟩ = some (.slice A1_0 l1_0.length c1_0) := (qe BK177.out 0).trans rfl; have hfz15_0 := qg BK177.out 0))
  go_ret
  exact ⟨by first | rfl | (simp [qi, qj] <;> rfl) | (simp [*, qi, qj] <;> rfl), by repeat (first | (with_reducible first | exact HB.out | apply qb | apply qa | apply qc | refine qh ?_ GE176.out | refine qh ?_ GE177.out) | exact HB.out)⟩
end Go.Proofs.YtlamfnaoemingaaGreatDoor.C
end
