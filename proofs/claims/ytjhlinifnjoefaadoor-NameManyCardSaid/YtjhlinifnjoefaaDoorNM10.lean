/- Words, walks and plain laws that the claim rests on, gathered. -/
import Derived.Lib.ConvBytes
import Derived.Shelf.Small.Strs
import Derived.Shelf.Strings.Search1
import Derived.Shelf.Strings.Search2
import Derived.Shelf.Strings.Search3
import Derived.Shelf.Strings.Cut
import Derived.Shelf.Strings.Count
import Derived.Shelf.LaysM
import Derived.Shelf.Strings.Shaped
import Derived.Shelf.Strings.Prefix
import Derived.Shelf.Strings.Split
import Derived.Shelf.Strings.SplitShaped
import Derived.Shelf.Unicode.DecodeSlow
import Derived.Test.YtjhlinifnjoefaaDoorProg
import Derived.Laws.StructEq
import Derived.WalkSpells
import Derived.Below
import Derived.Deep.Draws
import Derived.Deep.AppendLies
import Derived.Maps.AppendAt
import Derived.OwnWalk
import Derived.Laws.BytesArg
import Derived.Laws.MakeOwn
import Derived.Laws.OwnMore
import Derived.Deep.OwnRows
import Derived.Tactics
import Derived.Laws.Slices
import Derived.WalkKit
import Derived.KernelRfl
import Derived.RowKit3
import Derived.Deep.LoopGhost
import Derived.Deep.QuietTactic
import Derived.BigQuiet
import Derived.WideLaws
import Derived.Deep.DeepCutAuto
import Derived.Deep.CutBlock
import Derived.Deep.RegionHeld3
import Derived.Laws.Rows
import Derived.Lib.AppendStr
import Derived.ArgAppend
import Derived.Laws.IdiomCopy
import Derived.OrdersHeld
import Derived.Laws.BitsLemmas
import Derived.RowKit
import Derived.Test.YtjhlinifnjoefaaDoorNM0
import Derived.Test.YtjhlinifnjoefaaDoorNM1
import Derived.Test.YtjhlinifnjoefaaDoorNM2
import Derived.Test.YtjhlinifnjoefaaDoorNM9
namespace Go.Proofs.YtjhlinifnjoefaaDoorW.PrintLast
end Go.Proofs.YtjhlinifnjoefaaDoorW.PrintLast
namespace Go.Proofs.YtjhlinifnjoefaaDoorW.PrintMore
end Go.Proofs.YtjhlinifnjoefaaDoorW.PrintMore
namespace Go.Proofs.YtjhlinifnjoefaaDoorW.PrintWords
end Go.Proofs.YtjhlinifnjoefaaDoorW.PrintWords
section
namespace Go.Proofs.YtjhlinifnjoefaaDoor.C
open Go.RowKit Go.Proofs.YtjhlinifnjoefaaDoorW.PrintWords Go.Proofs.YtjhlinifnjoefaaDoorW.PrintLast Go.Proofs.YtjhlinifnjoefaaDoorW.PrintMore
attribute [local go_sem] xf xd xm xn z7 z6 xc xe
set_option linter.unusedVariables false
set_option linter.unusedSimpArgs false
def xa.f (a0 : Int) : Option (Bool) := if a0 ≥ 65 then (if a0 ≤ 90 then (some true) else (if a0 ≥ 97 then (if a0 ≤ 122 then (some true) else (if a0 ≥ 48 then (some (decide (a0 ≤ 57))) else (some false))) else (if a0 ≥ 48 then (some (decide (a0 ≤ 57))) else (some false)))) else (if a0 ≥ 97 then (if a0 ≤ 122 then (some true) else (if a0 ≥ 48 then (some (decide (a0 ≤ 57))) else (some false))) else (if a0 ≥ 48 then (some (decide (a0 ≤ 57))) else (some false)))
set_option maxHeartbeats 8000000 in
set_option maxRecDepth 100000 in
theorem xa.calls (a0 : Int) (r : Bool) (w : World) (h : xa.f a0 = some r) :
  Calls Tryd.prog 43 #[.int .u8 a0] w fun e w' => e = .returned (.bool r) ∧ qw w w' := by
 have H : (if a0 ≥ 65 then (if a0 ≤ 90 then (some true) else (if a0 ≥ 97 then (if a0 ≤ 122 then (some true) else (if a0 ≥ 48 then (some (decide (a0 ≤ 57))) else (some false))) else (if a0 ≥ 48 then (some (decide (a0 ≤ 57))) else (some false)))) else (if a0 ≥ 97 then (if a0 ≤ 122 then (some true) else (if a0 ≥ 48 then (some (decide (a0 ≤ 57))) else (some false))) else (if a0 ≥ 48 then (some (decide (a0 ≤ 57))) else (some false)))) = some r := h
 clear h
 by_cases c2 : a0 ≥ 65
 ·rw [if_pos c2] at H
  have c2b0 : decide (65 ≤ a0) = true := decide_eq_true c2
  clear c2
  by_cases c3 : a0 ≤ 90
  ·rw [if_pos c3] at H
   have c3b0 : decide (a0 ≤ 90) = true := decide_eq_true c3
   clear c3
   obtain rfl := Option.some.inj H
   go_enter Tryd.func43, Tryd.ntmps43
   go_wp2
   go_ret
   exact ⟨by first | rfl | (simp; done) | (simp [*]; done), by repeat (first | exact qw.refl _ | apply qw.step)⟩
  ·rw [if_neg c3] at H
   have c3b0 : decide (a0 ≤ 90) = false := decide_eq_false c3
   clear c3
   by_cases c4 : a0 ≥ 97
   ·rw [if_pos c4] at H
    have c4b0 : decide (97 ≤ a0) = true := decide_eq_true c4
    clear c4
    by_cases c5 : a0 ≤ 122
    ·rw [if_pos c5] at H
     have c5b0 : decide (a0 ≤ 122) = true := decide_eq_true c5
     clear c5
     obtain rfl := Option.some.inj H
     go_enter Tryd.func43, Tryd.ntmps43
     go_wp2
     go_ret
     exact ⟨by first | rfl | (simp; done) | (simp [*]; done), by repeat (first | exact qw.refl _ | apply qw.step)⟩
    ·rw [if_neg c5] at H
     have c5b0 : decide (a0 ≤ 122) = false := decide_eq_false c5
     clear c5
     by_cases c6 : a0 ≥ 48
     ·rw [if_pos c6] at H
      have c6b0 : decide (48 ≤ a0) = true := decide_eq_true c6
      clear c6
      obtain rfl := Option.some.inj H
      go_enter Tryd.func43, Tryd.ntmps43
      go_wp2
      go_ret
      exact ⟨by first | rfl | (simp; done) | (simp [*]; done), by repeat (first | exact qw.refl _ | apply qw.step)⟩
     ·rw [if_neg c6] at H
      have c6b0 : decide (48 ≤ a0) = false := decide_eq_false c6
      clear c6
      obtain rfl := Option.some.inj H
      go_enter Tryd.func43, Tryd.ntmps43
      go_wp2
      go_ret
      exact ⟨by first | rfl | (simp; done) | (simp [*]; done), by repeat (first | exact qw.refl _ | apply qw.step)⟩
   ·rw [if_neg c4] at H
    have c4b0 : decide (97 ≤ a0) = false := decide_eq_false c4
    clear c4
    by_cases c7 : a0 ≥ 48
    ·rw [if_pos c7] at H
     have c7b0 : decide (48 ≤ a0) = true := decide_eq_true c7
     clear c7
     obtain rfl := Option.some.inj H
     go_enter Tryd.func43, Tryd.ntmps43
     go_wp2
     go_ret
     exact ⟨by first | rfl | (simp; done) | (simp [*]; done), by repeat (first | exact qw.refl _ | apply qw.step)⟩
    ·rw [if_neg c7] at H
     have c7b0 : decide (48 ≤ a0) = false := decide_eq_false c7
     clear c7
     obtain rfl := Option.some.inj H
     go_enter Tryd.func43, Tryd.ntmps43
     go_wp2
     go_ret
     exact ⟨by first | rfl | (simp; done) | (simp [*]; done), by repeat (first | exact qw.refl _ | apply qw.step)⟩
 ·rw [if_neg c2] at H
  have c2b0 : decide (65 ≤ a0) = false := decide_eq_false c2
  clear c2
  by_cases c8 : a0 ≥ 97
  ·rw [if_pos c8] at H
   have c8b0 : decide (97 ≤ a0) = true := decide_eq_true c8
   clear c8
   by_cases c9 : a0 ≤ 122
   ·rw [if_pos c9] at H
    have c9b0 : decide (a0 ≤ 122) = true := decide_eq_true c9
    clear c9
    obtain rfl := Option.some.inj H
    go_enter Tryd.func43, Tryd.ntmps43
    go_wp2
    go_ret
    exact ⟨by first | rfl | (simp; done) | (simp [*]; done), by repeat (first | exact qw.refl _ | apply qw.step)⟩
   ·rw [if_neg c9] at H
    have c9b0 : decide (a0 ≤ 122) = false := decide_eq_false c9
    clear c9
    by_cases c10 : a0 ≥ 48
    ·rw [if_pos c10] at H
     have c10b0 : decide (48 ≤ a0) = true := decide_eq_true c10
     clear c10
     obtain rfl := Option.some.inj H
     go_enter Tryd.func43, Tryd.ntmps43
     go_wp2
     go_ret
     exact ⟨by first | rfl | (simp; done) | (simp [*]; done), by repeat (first | exact qw.refl _ | apply qw.step)⟩
    ·rw [if_neg c10] at H
     have c10b0 : decide (48 ≤ a0) = false := decide_eq_false c10
     clear c10
     obtain rfl := Option.some.inj H
     go_enter Tryd.func43, Tryd.ntmps43
     go_wp2
     go_ret
     exact ⟨by first | rfl | (simp; done) | (simp [*]; done), by repeat (first | exact qw.refl _ | apply qw.step)⟩
  ·rw [if_neg c8] at H
   have c8b0 : decide (97 ≤ a0) = false := decide_eq_false c8
   clear c8
   by_cases c11 : a0 ≥ 48
   ·rw [if_pos c11] at H
    have c11b0 : decide (48 ≤ a0) = true := decide_eq_true c11
    clear c11
    obtain rfl := Option.some.inj H
    go_enter Tryd.func43, Tryd.ntmps43
    go_wp2
    go_ret
    exact ⟨by first | rfl | (simp; done) | (simp [*]; done), by repeat (first | exact qw.refl _ | apply qw.step)⟩
   ·rw [if_neg c11] at H
    have c11b0 : decide (48 ≤ a0) = false := decide_eq_false c11
    clear c11
    obtain rfl := Option.some.inj H
    go_enter Tryd.func43, Tryd.ntmps43
    go_wp2
    go_ret
    exact ⟨by first | rfl | (simp; done) | (simp [*]; done), by repeat (first | exact qw.refl _ | apply qw.step)⟩
def q3.l0 : Nat → Int → ByteArray → Int → Option (Bool)
 | 0, _, _, _ => none
 | k + 1, x0, x1, x5 => if x5 < (x1.size : Int) then (if 0 ≤ x5 then (if (bt x1 x5) = x0 then (some true) else (q3.l0 k x0 x1 (wrap64 (x5 + 1)))) else (none)) else (some false)
def q3.f (k : Nat) (a0 : Int) (a1 : ByteArray) : Option (Bool) := q3.l0 k a0 a1 0
theorem q3.zy : ∀ k, (∀ y0 y1 y2, LeO (q3.l0 k y0 y1 y2) (q3.l0 (k + 1) y0 y1 y2))
 | 0 => fun _ _ _ r h => by simp [q3.l0] at h
 | k + 1 => by
  have ih0 := q3.zy k
  ·intro y0 y1 y2
   unfold q3.l0
   repeat' first
   | (with_reducible exact ih0 _ _ _)
   | (with_reducible exact LeO.refl _)
   | (with_reducible exact LeO.none _)
   | (with_reducible refine LeO.ite ?_ ?_)
   | (with_reducible refine LeO.bind ?_ (fun _ => ?_))
theorem q3.mono : ∀ a0 a1 k, LeO (q3.f k a0 a1) (q3.f (k + 1) a0 a1) := by
 intro a0 a1 k
 have ih0 := q3.zy k
 unfold q3.f
 repeat' first
   | (with_reducible exact ih0 _ _ _)
   | (with_reducible exact LeO.refl _)
   | (with_reducible exact LeO.none _)
   | (with_reducible refine LeO.ite ?_ ?_)
   | (with_reducible refine LeO.bind ?_ (fun _ => ?_))
set_option maxHeartbeats 8000000 in
set_option maxRecDepth 100000 in
theorem q3.calls (k : Nat) (a0 : Int) (a1 : ByteArray) (r : Bool) (w : World) (h : q3.f k a0 a1 = some r) :
  Calls Tryd.prog 44 #[.int .u8 a0, .string a1] w fun e w' => e = .returned (.bool r) ∧ qw w w' := by
 have H : (q3.l0 k a0 a1 0) = some r := h
 clear h
 have H' := qb.mk H
 clear H
 go_enter Tryd.func44, Tryd.ntmps44
 go_wp2
 go_loopg [5] k (fun kq v5 w' => ∃ (x5_1 : Int), v5 = .int .i64 x5_1 ∧ qb (q3.l0 kq a0 a1 x5_1 = some r) ∧ qb (kq ≤ k) ∧ qw w w')
 case atStart => exact ⟨(0), (by first | rfl | (simp; done) | (simp [*]; done)), H', ⟨Nat.le_refl _⟩, by repeat (first | exact qw.refl _ | apply qw.step)⟩
 case round =>
  clear H'
  try clear p2
  obtain ⟨x5_1, rfl, HA, HK1, ⟨m1, rfl⟩⟩ := hrel
  cases gk with
  | zero => exact absurd HA.out (by simp [q3.l0])
  | succ k1 =>
   have H := HA.out
   clear HA
   simp only [q3.l0] at H
   by_cases c3 : x5_1 < (a1.size : Int)
   ·rw [if_pos c3] at H
    have c3b0 : decide (x5_1 < (a1.size : Int)) = true := decide_eq_true c3
    clear c3
    by_cases c4 : 0 ≤ x5_1
    ·rw [if_pos c4] at H
     have c4b0 : decide (0 ≤ x5_1) = true := decide_eq_true c4
     clear c4
     by_cases c6 : (bt a1 x5_1) = a0
     ·rw [if_pos c6] at H
      have c6b0 : ((bt a1 x5_1) == a0) = true := beq_iff_eq.mpr c6
      have c6b1 : ((bt a1 x5_1) != a0) = false := bne_eq_false_iff_eq.mpr c6
      clear c6
      obtain rfl := Option.some.inj H
      have p5 : 0 ≤ (x5_1 : Int) := of_decide_eq_true (by first | (with_reducible assumption) | assumption)
      have q5 : x5_1 < (a1.size : Int) := of_decide_eq_true (by first | (with_reducible assumption) | assumption)
      have hx5 := xk a1 x5_1
      replace p5 := eq_true p5
      replace q5 := eq_true q5
      go_wp2
      go_ret
      exact ⟨by first | rfl | (simp; done) | (simp [*]; done), by repeat (first | exact qw.refl _ | apply qw.step)⟩
     ·rw [if_neg c6] at H
      have c6b0 : ((bt a1 x5_1) == a0) = false := beq_eq_false_iff_ne.mpr c6
      have c6b1 : ((bt a1 x5_1) != a0) = true := bne_iff_ne.mpr c6
      have H' := qb.mk H
      clear H
      have p5 : 0 ≤ (x5_1 : Int) := of_decide_eq_true (by first | (with_reducible assumption) | assumption)
      have q5 : x5_1 < (a1.size : Int) := of_decide_eq_true (by first | (with_reducible assumption) | assumption)
      have hx5 := xk a1 x5_1
      replace p5 := eq_true p5
      replace q5 := eq_true q5
      go_wp2
      go_roundg k1
      case measure => have := HK1.out; omega
      case rel => exact ⟨(wrap64 (x5_1 + 1)), (by first | rfl | (simp; done) | (simp [*]; done)), H', ⟨by have := HK1.out; omega⟩, by repeat (first | exact qw.refl _ | apply qw.step)⟩
    ·rw [if_neg c4] at H
     exact absurd H (by simp)
   ·rw [if_neg c3] at H
    have c3b0 : decide (x5_1 < (a1.size : Int)) = false := decide_eq_false c3
    clear c3
    obtain rfl := Option.some.inj H
    go_wp2
    go_ret
    exact ⟨by first | rfl | (simp; done) | (simp [*]; done), by repeat (first | exact qw.refl _ | apply qw.step)⟩
end Go.Proofs.YtjhlinifnjoefaaDoor.C
end
section
namespace Go.Proofs.YtjhlinifnjoefaaDoor.C
open Go.RowKit Go.Proofs.YtjhlinifnjoefaaDoorW.PrintWords Go.Proofs.YtjhlinifnjoefaaDoorW.PrintLast Go.Proofs.YtjhlinifnjoefaaDoorW.PrintMore
attribute [local go_sem] xf xd xm xn z7 z6 xc xe
set_option linter.unusedVariables false
set_option linter.unusedSimpArgs false
mutual
def qf.j0 : Nat → Int → ByteArray → Bool → Option (Bool)
 | 0, _, _, _ => none
 | k + 1, x0, x1, x11 => if x11 = true then (qf.l0 k x0 x1 0) else (some false)
def qf.l0 : Nat → Int → ByteArray → Int → Option (Bool)
 | 0, _, _, _ => none
 | k + 1, x0, x1, x5 => if x5 < (x1.size : Int) then (if x0 = 22 then (if 0 ≤ x5 then (if (bt x1 x5) < 32 then (qf.j2 k x0 x1 x5 true) else (if (bt x1 x5) > 126 then (qf.j2 k x0 x1 x5 true) else (if x0 = 19 then ((xa.f (bt x1 x5)).bind fun t242 => (if t242 = true then (qf.j2 k x0 x1 x5 false) else ((q3.f k (bt x1 x5) (⟨#[32, 39, 40, 41, 43, 44, 45, 46, 47, 58, 61, 63]⟩ : ByteArray)).bind fun t243 => (qf.j2 k x0 x1 x5 (!t243))))) else (qf.j2 k x0 x1 x5 false)))) else (none)) else (if x0 = 19 then (if 0 ≤ x5 then ((xa.f (bt x1 x5)).bind fun t244 => (if t244 = true then (qf.j2 k x0 x1 x5 false) else ((q3.f k (bt x1 x5) (⟨#[32, 39, 40, 41, 43, 44, 45, 46, 47, 58, 61, 63]⟩ : ByteArray)).bind fun t245 => (qf.j2 k x0 x1 x5 (!t245))))) else (none)) else (qf.j2 k x0 x1 x5 false))) else (some true)
def qf.j2 : Nat → Int → ByteArray → Int → Bool → Option (Bool)
 | 0, _, _, _, _ => none
 | k + 1, x0, x1, x5, x51 => if x51 = true then (some false) else (qf.l0 k x0 x1 (wrap64 (x5 + 1)))
end
def qf.f (k : Nat) (a0 : Int) (a1 : ByteArray) : Option (Bool) := if a0 = 12 then ((qe.f k a1).bind fun t241 => (some t241)) else (if a0 = 19 then (qf.j0 k a0 a1 (a0 == 19)) else (qf.j0 k a0 a1 (a0 == 22)))
theorem qf.zy : ∀ k, (∀ y0 y1 y2, LeO (qf.j0 k y0 y1 y2) (qf.j0 (k + 1) y0 y1 y2)) ∧ (∀ y0 y1 y2, LeO (qf.l0 k y0 y1 y2) (qf.l0 (k + 1) y0 y1 y2)) ∧ (∀ y0 y1 y2 y3, LeO (qf.j2 k y0 y1 y2 y3) (qf.j2 (k + 1) y0 y1 y2 y3))
 | 0 => ⟨fun _ _ _ r h => by simp [qf.j0] at h, fun _ _ _ r h => by simp [qf.l0] at h, fun _ _ _ _ r h => by simp [qf.j2] at h⟩
 | k + 1 => by
  obtain ⟨ih0, ih1, ih2⟩ := qf.zy k
  refine ⟨?_, ?_, ?_⟩
  ·intro y0 y1 y2
   unfold qf.j0
   repeat' first
   | (with_reducible exact ih0 _ _ _)
   | (with_reducible exact ih1 _ _ _)
   | (with_reducible exact ih2 _ _ _ _)
   | (with_reducible exact q3.mono _ _ _)
   | (with_reducible exact qe.mono _ _)
   | (with_reducible exact LeO.refl _)
   | (with_reducible exact LeO.none _)
   | (with_reducible refine LeO.ite ?_ ?_)
   | (with_reducible refine LeO.bind ?_ (fun _ => ?_))
  ·intro y0 y1 y2
   unfold qf.l0
   repeat' first
   | (with_reducible exact ih0 _ _ _)
   | (with_reducible exact ih1 _ _ _)
   | (with_reducible exact ih2 _ _ _ _)
   | (with_reducible exact q3.mono _ _ _)
   | (with_reducible exact qe.mono _ _)
   | (with_reducible exact LeO.refl _)
   | (with_reducible exact LeO.none _)
   | (with_reducible refine LeO.ite ?_ ?_)
   | (with_reducible refine LeO.bind ?_ (fun _ => ?_))
  ·intro y0 y1 y2 y3
   unfold qf.j2
   repeat' first
   | (with_reducible exact ih0 _ _ _)
   | (with_reducible exact ih1 _ _ _)
   | (with_reducible exact ih2 _ _ _ _)
   | (with_reducible exact q3.mono _ _ _)
   | (with_reducible exact qe.mono _ _)
   | (with_reducible exact LeO.refl _)
   | (with_reducible exact LeO.none _)
   | (with_reducible refine LeO.ite ?_ ?_)
   | (with_reducible refine LeO.bind ?_ (fun _ => ?_))
theorem qf.mono : ∀ a0 a1 k, LeO (qf.f k a0 a1) (qf.f (k + 1) a0 a1) := by
 intro a0 a1 k
 obtain ⟨ih0, ih1, ih2⟩ := qf.zy k
 unfold qf.f
 repeat' first
   | (with_reducible exact ih0 _ _ _)
   | (with_reducible exact ih1 _ _ _)
   | (with_reducible exact ih2 _ _ _ _)
   | (with_reducible exact q3.mono _ _ _)
   | (with_reducible exact qe.mono _ _)
   | (with_reducible exact LeO.refl _)
   | (with_reducible exact LeO.none _)
   | (with_reducible refine LeO.ite ?_ ?_)
   | (with_reducible refine LeO.bind ?_ (fun _ => ?_))
set_option maxHeartbeats 8000000 in
set_option maxRecDepth 100000 in
theorem qf.calls (k : Nat) (a0 : Int) (a1 : ByteArray) (r : Bool) (w : World) (h : qf.f k a0 a1 = some r) :
  Calls Tryd.prog 29 #[.int .i64 a0, .string a1] w fun e w' => e = .returned (.bool r) ∧ qw w w' := by
 have H : (if a0 = 12 then ((qe.f k a1).bind fun t241 => (some t241)) else (if a0 = 19 then (qf.j0 k a0 a1 (a0 == 19)) else (qf.j0 k a0 a1 (a0 == 22)))) = some r := h
 clear h
 by_cases c3 : a0 = 12
 ·rw [if_pos c3] at H
  have c3b0 : (a0 == 12) = true := beq_iff_eq.mpr c3
  have c3b1 : (a0 != 12) = false := bne_eq_false_iff_eq.mpr c3
  clear c3
  replace H := Option.bind_eq_some_iff.mp H
  obtain ⟨t241, A40, H⟩ := H
  replace H : (some t241) = some r := H
  have A4 := qb.mk A40
  clear A40
  obtain rfl := Option.some.inj H
  go_enter Tryd.func29, Tryd.ntmps29
  go_wp2_with (first | ((with_reducible refine zg (f := 42) rfl ?_); refine xh (some 10) rfl rfl Tryd.func42 (by kernel_rfl) rfl #[.string a1] rfl (by (try simp only [List.map_toArray, List.map_cons, List.map_nil]); first | done | rfl | (simp only [List.length_drop, List.length_take]; rfl)) ?_; (with_reducible refine (qe.calls k a1 t241 _ A4.out).mono ?_); rintro e w' ⟨rfl, ⟨nd, rfl⟩⟩; refine ⟨_, rfl, ?_⟩))
  go_ret
  exact ⟨by first | rfl | (simp; done) | (simp [*]; done), by repeat (first | exact qw.refl _ | apply qw.step)⟩
 ·rw [if_neg c3] at H
  have c3b0 : (a0 == 12) = false := beq_eq_false_iff_ne.mpr c3
  have c3b1 : (a0 != 12) = true := bne_iff_ne.mpr c3
  have HC5 := qb.mk H
  clear H
  go_enter Tryd.func29, Tryd.ntmps29
  go_upto_if 11 with (fail)
  go_cut [11] (fun v11 wc => ∃ (kq : Nat) (x11_4 : Bool), v11 = .bool x11_4 ∧ qb (qf.j0 kq a0 a1 x11_4 = some r) ∧ qb (kq ≤ k) ∧ qw w wc)
  case first =>
   have H := HC5.out
   clear HC5
   by_cases c6 : a0 = 19
   ·rw [if_pos c6] at H
    have c6b0 : (a0 == 19) = true := beq_iff_eq.mpr c6
    have c6b1 : (a0 != 19) = false := bne_eq_false_iff_eq.mpr c6
    clear c6
    (first | rw [c6b0] | (simp only [zk, zm]; rw [c6b0]) | skip)
    have H' := qb.mk H
    clear H
    go_wp2
    go_meet
    case rel => exact ⟨_, ((a0 == 19)), (by first | rfl | (simp; done) | (simp [*]; done)), H', ⟨by first | omega | exact Nat.le_refl _⟩, by repeat (first | exact qw.refl _ | apply qw.step)⟩
   ·rw [if_neg c6] at H
    have c6b0 : (a0 == 19) = false := beq_eq_false_iff_ne.mpr c6
    have c6b1 : (a0 != 19) = true := bne_iff_ne.mpr c6
    (first | rw [c6b0] | (simp only [zk, zm]; rw [c6b0]) | skip)
    have H' := qb.mk H
    clear H
    go_wp2
    go_meet
    case rel => exact ⟨_, ((a0 == 22)), (by first | rfl | (simp; done) | (simp [*]; done)), H', ⟨by first | omega | exact Nat.le_refl _⟩, by repeat (first | exact qw.refl _ | apply qw.step)⟩
  case rest =>
   clear HC5
   (try clear c2); (try clear p2); (try clear c3); (try clear c3b0); (try clear c3b1); (try clear c4); (try clear c6); (try clear c6b0); try clear c6b1
   obtain ⟨kq, x11_4, rfl, HA, HJ4, ⟨mc4, rfl⟩⟩ := hcut
   cases kq with
   | zero => exact absurd HA.out (by simp [qf.j0])
   | succ kj4 =>
    have H := HA.out
    clear HA
    simp only [qf.j0] at H
    by_cases c7 : x11_4 = true
    ·subst c7
     have H1 : (qf.l0 kj4 a0 a1 0) = some r := by rw [if_pos rfl] at H; exact H
     clear H
     have H := H1
     clear H1
     have H' := qb.mk H
     clear H
     go_wp2
     go_loopg [5] kj4 (fun kq v5 w' => ∃ (x5_2 : Int), v5 = .int .i64 x5_2 ∧ qb (qf.l0 kq a0 a1 x5_2 = some r) ∧ qb (kq ≤ kj4) ∧ qw w w')
     case atStart => exact ⟨(0), (by first | rfl | (simp; done) | (simp [*]; done)), H', ⟨Nat.le_refl _⟩, by repeat (first | exact qw.refl _ | apply qw.step)⟩
     case round =>
      clear H'
      (try clear c2); (try clear p2); (try clear c3); (try clear c3b0); (try clear c3b1); (try clear c4); (try clear c6); (try clear c6b0); (try clear c6b1); (try clear c7); try clear p2
      obtain ⟨x5_2, rfl, HA, HK2, ⟨m2, rfl⟩⟩ := hrel
      cases gk with
      | zero => exact absurd HA.out (by simp [qf.l0])
      | succ k2 =>
       have H := HA.out
       clear HA
       simp only [qf.l0] at H
       by_cases c8 : x5_2 < (a1.size : Int)
       ·rw [if_pos c8] at H
        have c8b0 : decide (x5_2 < (a1.size : Int)) = true := decide_eq_true c8
        clear c8
        have HC9 := qb.mk H
        clear H
        go_upto_region 9 with (fail)
        go_cut [51] (fun v51 wc => ∃ (kq : Nat) (x51_8 : Bool), v51 = .bool x51_8 ∧ qb (qf.j2 kq a0 a1 x5_2 x51_8 = some r) ∧ qb (kq ≤ k2) ∧ qw w wc)
        case first =>
         have H := HC9.out
         clear HC9
         by_cases c10 : a0 = 22
         ·rw [if_pos c10] at H
          have c10b0 : (a0 == 22) = true := beq_iff_eq.mpr c10
          have c10b1 : (a0 != 22) = false := bne_eq_false_iff_eq.mpr c10
          clear c10
          (first | rw [c10b0] | (simp only [zk, zm]; rw [c10b0]) | skip)
          by_cases c11 : 0 ≤ x5_2
          ·rw [if_pos c11] at H
           have c11b0 : decide (0 ≤ x5_2) = true := decide_eq_true c11
           clear c11
           by_cases c13 : (bt a1 x5_2) < 32
           ·rw [if_pos c13] at H
            have c13b0 : decide ((bt a1 x5_2) < 32) = true := decide_eq_true c13
            clear c13
            have H' := qb.mk H
            clear H
            have p12 : 0 ≤ (x5_2 : Int) := of_decide_eq_true (by first | (with_reducible assumption) | assumption)
            have q12 : x5_2 < (a1.size : Int) := of_decide_eq_true (by first | (with_reducible assumption) | assumption)
            have hx12 := xk a1 x5_2
            replace p12 := eq_true p12
            replace q12 := eq_true q12
            go_wp2
            go_meet
            case rel => exact ⟨_, (true), (by first | rfl | (simp; done) | (simp [*]; done)), H', ⟨by have := HJ4.out; have := HK2.out; first | omega | exact Nat.le_refl _⟩, by repeat (first | exact qw.refl _ | apply qw.step)⟩
           ·rw [if_neg c13] at H
            have c13b0 : decide ((bt a1 x5_2) < 32) = false := decide_eq_false c13
            clear c13
            by_cases c15 : (bt a1 x5_2) > 126
            ·rw [if_pos c15] at H
             have c15b0 : decide (126 < (bt a1 x5_2)) = true := decide_eq_true c15
             clear c15
             have H' := qb.mk H
             clear H
             have p12 : 0 ≤ (x5_2 : Int) := of_decide_eq_true (by first | (with_reducible assumption) | assumption)
             have q12 : x5_2 < (a1.size : Int) := of_decide_eq_true (by first | (with_reducible assumption) | assumption)
             have hx12 := xk a1 x5_2
             replace p12 := eq_true p12
             replace q12 := eq_true q12
             have p14 : 0 ≤ (x5_2 : Int) := of_decide_eq_true (by first | (with_reducible assumption) | assumption)
             have q14 : x5_2 < (a1.size : Int) := of_decide_eq_true (by first | (with_reducible assumption) | assumption)
             have hx14 := xk a1 x5_2
             replace p14 := eq_true p14
             replace q14 := eq_true q14
             go_wp2
             go_meet
             case rel => exact ⟨_, (true), (by first | rfl | (simp; done) | (simp [*]; done)), H', ⟨by have := HJ4.out; have := HK2.out; first | omega | exact Nat.le_refl _⟩, by repeat (first | exact qw.refl _ | apply qw.step)⟩
            ·rw [if_neg c15] at H
             have c15b0 : decide (126 < (bt a1 x5_2)) = false := decide_eq_false c15
             clear c15
             by_cases c16 : a0 = 19
             ·rw [if_pos c16] at H
              have c16b0 : (a0 == 19) = true := beq_iff_eq.mpr c16
              have c16b1 : (a0 != 19) = false := bne_eq_false_iff_eq.mpr c16
              clear c16
              replace H := Option.bind_eq_some_iff.mp H
              obtain ⟨t242, A180, H⟩ := H
              replace H : (if t242 = true then (qf.j2 k2 a0 a1 x5_2 false) else ((q3.f k2 (bt a1 x5_2) (⟨#[32, 39, 40, 41, 43, 44, 45, 46, 47, 58, 61, 63]⟩ : ByteArray)).bind fun t243 => (qf.j2 k2 a0 a1 x5_2 (!t243)))) = some r := H
              have A18 := qb.mk A180
              clear A180
              by_cases c19 : t242 = true
              ·subst c19
               have H1 : (qf.j2 k2 a0 a1 x5_2 false) = some r := by rw [if_pos rfl] at H; exact H
               clear H
               have H := H1
               clear H1
               have H' := qb.mk H
               clear H
               have p12 : 0 ≤ (x5_2 : Int) := of_decide_eq_true (by first | (with_reducible assumption) | assumption)
               have q12 : x5_2 < (a1.size : Int) := of_decide_eq_true (by first | (with_reducible assumption) | assumption)
               have hx12 := xk a1 x5_2
               replace p12 := eq_true p12
               replace q12 := eq_true q12
               have p14 : 0 ≤ (x5_2 : Int) := of_decide_eq_true (by first | (with_reducible assumption) | assumption)
               have q14 : x5_2 < (a1.size : Int) := of_decide_eq_true (by first | (with_reducible assumption) | assumption)
               have hx14 := xk a1 x5_2
               replace p14 := eq_true p14
               replace q14 := eq_true q14
               have p17 : 0 ≤ (x5_2 : Int) := of_decide_eq_true (by first | (with_reducible assumption) | assumption)
               have q17 : x5_2 < (a1.size : Int) := of_decide_eq_true (by first | (with_reducible assumption) | assumption)
               have hx17 := xk a1 x5_2
               replace p17 := eq_true p17
               replace q17 := eq_true q17
               go_wp2_with (first | (go_at_call 43; (with_reducible refine (xa.calls (bt a1 x5_2) true _ A18.out).mono ?_); rintro e w' ⟨rfl, ⟨nd, rfl⟩⟩))
               go_meet
               case rel => exact ⟨_, (false), (by first | rfl | (simp; done) | (simp [*]; done)), H', ⟨by have := HJ4.out; have := HK2.out; first | omega | exact Nat.le_refl _⟩, by repeat (first | exact qw.refl _ | apply qw.step)⟩
              ·replace c19 := Bool.eq_false_iff.mpr c19
               subst c19
               have H1 : ((q3.f k2 (bt a1 x5_2) (⟨#[32, 39, 40, 41, 43, 44, 45, 46, 47, 58, 61, 63]⟩ : ByteArray)).bind fun t243 => (qf.j2 k2 a0 a1 x5_2 (!t243))) = some r := by rw [if_neg (show ¬ (false = true) by decide)] at H; exact H
               clear H
               have H := H1
               clear H1
               replace H := Option.bind_eq_some_iff.mp H
               obtain ⟨t243, A210, H⟩ := H
               replace H : (qf.j2 k2 a0 a1 x5_2 (!t243)) = some r := H
               have A21 := qb.mk A210
               clear A210
               have H' := qb.mk H
               clear H
               have p12 : 0 ≤ (x5_2 : Int) := of_decide_eq_true (by first | (with_reducible assumption) | assumption)
               have q12 : x5_2 < (a1.size : Int) := of_decide_eq_true (by first | (with_reducible assumption) | assumption)
               have hx12 := xk a1 x5_2
               replace p12 := eq_true p12
               replace q12 := eq_true q12
               have p14 : 0 ≤ (x5_2 : Int) := of_decide_eq_true (by first | (with_reducible assumption) | assumption)
               have q14 : x5_2 < (a1.size : Int) := of_decide_eq_true (by first | (with_reducible assumption) | assumption)
               have hx14 := xk a1 x5_2
               replace p14 := eq_true p14
               replace q14 := eq_true q14
               have p17 : 0 ≤ (x5_2 : Int) := of_decide_eq_true (by first | (with_reducible assumption) | assumption)
               have q17 : x5_2 < (a1.size : Int) := of_decide_eq_true (by first | (with_reducible assumption) | assumption)
               have hx17 := xk a1 x5_2
               replace p17 := eq_true p17
               replace q17 := eq_true q17
               go_wp2_with (first | (go_at_call 43; (with_reducible refine (xa.calls (bt a1 x5_2) false _ A18.out).mono ?_); rintro e w' ⟨rfl, ⟨nd, rfl⟩⟩; have p20 : 0 ≤ (x5_2 : Int) := of_decide_eq_true (by first | (with_reducible assumption) | assumption); have q20 : x5_2 < (a1.size : Int) := of_decide_eq_true (by first | (with_reducible assumption) | assumption); have hx20 := xk a1 x5_2; replace p20 := eq_true p20; replace q20 := eq_true q20) | (go_at_call 44; (with_reducible refine (q3.calls k2 (bt a1 x5_2) (⟨#[32, 39, 40, 41, 43, 44, 45, 46, 47, 58, 61, 63]⟩ : ByteArray) t243 _ A21.out).mono ?_); rintro e w' ⟨rfl, ⟨nd, rfl⟩⟩))
               go_meet
               case rel => exact ⟨_, (!t243), (by first | rfl | (simp; done) | (simp [*]; done)), H', ⟨by have := HJ4.out; have := HK2.out; first | omega | exact Nat.le_refl _⟩, by repeat (first | exact qw.refl _ | apply qw.step)⟩
             ·rw [if_neg c16] at H
              have c16b0 : (a0 == 19) = false := beq_eq_false_iff_ne.mpr c16
              have c16b1 : (a0 != 19) = true := bne_iff_ne.mpr c16
              have H' := qb.mk H
              clear H
              have p12 : 0 ≤ (x5_2 : Int) := of_decide_eq_true (by first | (with_reducible assumption) | assumption)
              have q12 : x5_2 < (a1.size : Int) := of_decide_eq_true (by first | (with_reducible assumption) | assumption)
              have hx12 := xk a1 x5_2
              replace p12 := eq_true p12
              replace q12 := eq_true q12
              have p14 : 0 ≤ (x5_2 : Int) := of_decide_eq_true (by first | (with_reducible assumption) | assumption)
              have q14 : x5_2 < (a1.size : Int) := of_decide_eq_true (by first | (with_reducible assumption) | assumption)
              have hx14 := xk a1 x5_2
              replace p14 := eq_true p14
              replace q14 := eq_true q14
              go_wp2
              go_meet
              case rel => exact ⟨_, (false), (by first | rfl | (simp; done) | (simp [*]; done)), H', ⟨by have := HJ4.out; have := HK2.out; first | omega | exact Nat.le_refl _⟩, by repeat (first | exact qw.refl _ | apply qw.step)⟩
          ·rw [if_neg c11] at H
           exact absurd H (by simp)
         ·rw [if_neg c10] at H
          have c10b0 : (a0 == 22) = false := beq_eq_false_iff_ne.mpr c10
          have c10b1 : (a0 != 22) = true := bne_iff_ne.mpr c10
          (first | rw [c10b0] | (simp only [zk, zm]; rw [c10b0]) | skip)
          by_cases c22 : a0 = 19
          ·rw [if_pos c22] at H
           have c22b0 : (a0 == 19) = true := beq_iff_eq.mpr c22
           have c22b1 : (a0 != 19) = false := bne_eq_false_iff_eq.mpr c22
           clear c22
           by_cases c23 : 0 ≤ x5_2
           ·rw [if_pos c23] at H
            have c23b0 : decide (0 ≤ x5_2) = true := decide_eq_true c23
            clear c23
            replace H := Option.bind_eq_some_iff.mp H
            obtain ⟨t244, A250, H⟩ := H
            replace H : (if t244 = true then (qf.j2 k2 a0 a1 x5_2 false) else ((q3.f k2 (bt a1 x5_2) (⟨#[32, 39, 40, 41, 43, 44, 45, 46, 47, 58, 61, 63]⟩ : ByteArray)).bind fun t245 => (qf.j2 k2 a0 a1 x5_2 (!t245)))) = some r := H
            have A25 := qb.mk A250
            clear A250
            by_cases c26 : t244 = true
            ·subst c26
             have H1 : (qf.j2 k2 a0 a1 x5_2 false) = some r := by rw [if_pos rfl] at H; exact H
             clear H
             have H := H1
             clear H1
             have H' := qb.mk H
             clear H
             have p24 : 0 ≤ (x5_2 : Int) := of_decide_eq_true (by first | (with_reducible assumption) | assumption)
             have q24 : x5_2 < (a1.size : Int) := of_decide_eq_true (by first | (with_reducible assumption) | assumption)
             have hx24 := xk a1 x5_2
             replace p24 := eq_true p24
             replace q24 := eq_true q24
             go_wp2_with (first | (go_at_call 43; (with_reducible refine (xa.calls (bt a1 x5_2) true _ A25.out).mono ?_); rintro e w' ⟨rfl, ⟨nd, rfl⟩⟩))
             go_meet
             case rel => exact ⟨_, (false), (by first | rfl | (simp; done) | (simp [*]; done)), H', ⟨by have := HJ4.out; have := HK2.out; first | omega | exact Nat.le_refl _⟩, by repeat (first | exact qw.refl _ | apply qw.step)⟩
            ·replace c26 := Bool.eq_false_iff.mpr c26
             subst c26
             have H1 : ((q3.f k2 (bt a1 x5_2) (⟨#[32, 39, 40, 41, 43, 44, 45, 46, 47, 58, 61, 63]⟩ : ByteArray)).bind fun t245 => (qf.j2 k2 a0 a1 x5_2 (!t245))) = some r := by rw [if_neg (show ¬ (false = true) by decide)] at H; exact H
             clear H
             have H := H1
             clear H1
             replace H := Option.bind_eq_some_iff.mp H
             obtain ⟨t245, A280, H⟩ := H
             replace H : (qf.j2 k2 a0 a1 x5_2 (!t245)) = some r := H
             have A28 := qb.mk A280
             clear A280
             have H' := qb.mk H
             clear H
             have p24 : 0 ≤ (x5_2 : Int) := of_decide_eq_true (by first | (with_reducible assumption) | assumption)
             have q24 : x5_2 < (a1.size : Int) := of_decide_eq_true (by first | (with_reducible assumption) | assumption)
             have hx24 := xk a1 x5_2
             replace p24 := eq_true p24
             replace q24 := eq_true q24
             go_wp2_with (first | (go_at_call 43; (with_reducible refine (xa.calls (bt a1 x5_2) false _ A25.out).mono ?_); rintro e w' ⟨rfl, ⟨nd, rfl⟩⟩; have p27 : 0 ≤ (x5_2 : Int) := of_decide_eq_true (by first | (with_reducible assumption) | assumption); have q27 : x5_2 < (a1.size : Int) := of_decide_eq_true (by first | (with_reducible assumption) | assumption); have hx27 := xk a1 x5_2; replace p27 := eq_true p27; replace q27 := eq_true q27) | (go_at_call 44; (with_reducible refine (q3.calls k2 (bt a1 x5_2) (⟨#[32, 39, 40, 41, 43, 44, 45, 46, 47, 58, 61, 63]⟩ : ByteArray) t245 _ A28.out).mono ?_); rintro e w' ⟨rfl, ⟨nd, rfl⟩⟩))
             go_meet
             case rel => exact ⟨_, (!t245), (by first | rfl | (simp; done) | (simp [*]; done)), H', ⟨by have := HJ4.out; have := HK2.out; first | omega | exact Nat.le_refl _⟩, by repeat (first | exact qw.refl _ | apply qw.step)⟩
           ·rw [if_neg c23] at H
            exact absurd H (by simp)
          ·rw [if_neg c22] at H
           have c22b0 : (a0 == 19) = false := beq_eq_false_iff_ne.mpr c22
           have c22b1 : (a0 != 19) = true := bne_iff_ne.mpr c22
           have H' := qb.mk H
           clear H
           go_wp2
           go_meet
           case rel => exact ⟨_, (false), (by first | rfl | (simp; done) | (simp [*]; done)), H', ⟨by have := HJ4.out; have := HK2.out; first | omega | exact Nat.le_refl _⟩, by repeat (first | exact qw.refl _ | apply qw.step)⟩
        case rest =>
         clear HC9
         (try clear c1); (try clear p1); (try clear q1); (try clear hx1); (try clear c2); (try clear p2); (try clear q2); (try clear hx2); (try clear c3); (try clear c3b0); (try clear c3b1); try clear c4
         (try clear c6); (try clear c6b0); (try clear c6b1); (try clear c7); (try clear c8); (try clear c8b0); (try clear c10); (try clear c10b0); (try clear c10b1); (try clear c11); try clear c11b0
         (try clear p12); (try clear q12); (try clear hx12); (try clear c13); (try clear c13b0); (try clear p14); (try clear q14); (try clear hx14); (try clear c15); (try clear c15b0); try clear c16
         (try clear c16b0); (try clear c16b1); (try clear p17); (try clear q17); (try clear hx17); (try clear c19); (try clear p20); (try clear q20); (try clear hx20); (try clear c22); try clear c22b0
         (try clear c22b1); (try clear c23); (try clear c23b0); (try clear p24); (try clear q24); (try clear hx24); (try clear c26); (try clear p27); (try clear q27); (try clear hx27); try clear p12
         (try clear p14); (try clear p17); (try clear p2); (try clear p20); (try clear p24); (try clear p27); (try clear q12); (try clear q14); (try clear q17); (try clear q20); try clear q24
         try clear q27
         obtain ⟨kq, x51_8, rfl, HA, HJ8, ⟨mc8, rfl⟩⟩ := hcut
         cases kq with
         | zero => exact absurd HA.out (by simp [qf.j2])
         | succ kj8 =>
          have H := HA.out
          clear HA
          simp only [qf.j2] at H
          by_cases c29 : x51_8 = true
          ·subst c29
           have H1 : (some false) = some r := by rw [if_pos rfl] at H; exact H
           clear H
           have H := H1
           clear H1
           obtain rfl := Option.some.inj H
           go_wp2
           go_ret
           exact ⟨by first | rfl | (simp; done) | (simp [*]; done), by repeat (first | exact qw.refl _ | apply qw.step)⟩
          ·replace c29 := Bool.eq_false_iff.mpr c29
           subst c29
           have H1 : (qf.l0 kj8 a0 a1 (wrap64 (x5_2 + 1))) = some r := by rw [if_neg (show ¬ (false = true) by decide)] at H; exact H
           clear H
           have H := H1
           clear H1
           have H' := qb.mk H
           clear H
           go_wp2
           go_roundg kj8
           case measure => have := HJ4.out; have := HK2.out; have := HJ8.out; omega
           case rel => exact ⟨(wrap64 (x5_2 + 1)), (by first | rfl | (simp; done) | (simp [*]; done)), H', ⟨by have := HJ4.out; have := HK2.out; have := HJ8.out; omega⟩, by repeat (first | exact qw.refl _ | apply qw.step)⟩
       ·rw [if_neg c8] at H
        have c8b0 : decide (x5_2 < (a1.size : Int)) = false := decide_eq_false c8
        clear c8
        obtain rfl := Option.some.inj H
        go_wp2
        go_ret
        exact ⟨by first | rfl | (simp; done) | (simp [*]; done), by repeat (first | exact qw.refl _ | apply qw.step)⟩
    ·replace c7 := Bool.eq_false_iff.mpr c7
     subst c7
     have H1 : (some false) = some r := by rw [if_neg (show ¬ (false = true) by decide)] at H; exact H
     clear H
     have H := H1
     clear H1
     obtain rfl := Option.some.inj H
     go_wp2
     go_ret
     exact ⟨by first | rfl | (simp; done) | (simp [*]; done), by repeat (first | exact qw.refl _ | apply qw.step)⟩
end Go.Proofs.YtjhlinifnjoefaaDoor.C
end
section
namespace Go.Proofs.YtjhlinifnjoefaaDoor.C
open Go.RowKit Go.Proofs.YtjhlinifnjoefaaDoorW.PrintWords Go.Proofs.YtjhlinifnjoefaaDoorW.PrintLast Go.Proofs.YtjhlinifnjoefaaDoorW.PrintMore
attribute [local go_sem] xf xd xm xn z7 z6 xc xe
set_option linter.unusedVariables false
set_option linter.unusedSimpArgs false
mutual
def qj.l0 : Nat → List (S26) → List (S26) → Int → Int → Option (Int)
 | 0, _, _, _, _ => none
 | k + 1, x0, x6, x7, x8 => if x8 < x7 then (if 0 ≤ x8 then (if x8 < (x6.length : Int) then ((zb.f k ((qm x6 x8).f0)).bind fun t248 => (if t248 = true then (if (((qm x6 x8).f2).size : Int) = 0 then (qj.j1 k x0 x8 x6 x7 x8 true ((qm x6 x8).f0) ((qm x6 x8).f1) ((qm x6 x8).f2)) else ((qf.f k ((qm x6 x8).f1) ((qm x6 x8).f2)).bind fun t249 => (qj.j1 k x0 x8 x6 x7 x8 (!t249) ((qm x6 x8).f0) ((qm x6 x8).f1) ((qm x6 x8).f2)))) else (some 11))) else (none)) else (none)) else (some 0)
def qj.j1 : Nat → List (S26) → Int → List (S26) → Int → Int → Bool → ByteArray → Int → ByteArray → Option (Int)
 | 0, _, _, _, _, _, _, _, _, _ => none
 | k + 1, x0, x3, x6, x7, x8, x28, x248000, x248001, x248002 => if x28 = true then (some 13) else (if (x248002.size : Int) > 64 then (some 2) else (qj.l1 k x0 x3 0 x6 x7 x8 x248000 x248001 x248002))
def qj.l1 : Nat → List (S26) → Int → Int → List (S26) → Int → Int → ByteArray → Int → ByteArray → Option (Int)
 | 0, _, _, _, _, _, _, _, _, _ => none
 | k + 1, x0, x3, x5, x6, x7, x8, x248000, x248001, x248002 => if x5 < x3 then (if 0 ≤ x5 then (if x5 < (x0.length : Int) then (if ((qm x0 x5).f0).toList = x248000.toList then (some 10) else (qj.l1 k x0 x3 (wrap64 (x5 + 1)) x6 x7 x8 x248000 x248001 x248002)) else (none)) else (none)) else (qj.l0 k x0 x6 x7 (wrap64 (x8 + 1)))
end
def qj.f (k : Nat) (l0 : List (S26)) : Option (Int) := qj.l0 k l0 l0 (l0.length : Int) 0
theorem qj.zy : ∀ k, (∀ y0 y1 y2 y3, LeO (qj.l0 k y0 y1 y2 y3) (qj.l0 (k + 1) y0 y1 y2 y3)) ∧ (∀ y0 y1 y2 y3 y4 y5 y6 y7 y8, LeO (qj.j1 k y0 y1 y2 y3 y4 y5 y6 y7 y8) (qj.j1 (k + 1) y0 y1 y2 y3 y4 y5 y6 y7 y8)) ∧ (∀ y0 y1 y2 y3 y4 y5 y6 y7 y8, LeO (qj.l1 k y0 y1 y2 y3 y4 y5 y6 y7 y8) (qj.l1 (k + 1) y0 y1 y2 y3 y4 y5 y6 y7 y8))
 | 0 => ⟨fun _ _ _ _ r h => by simp [qj.l0] at h, fun _ _ _ _ _ _ _ _ _ r h => by simp [qj.j1] at h, fun _ _ _ _ _ _ _ _ _ r h => by simp [qj.l1] at h⟩
 | k + 1 => by
  obtain ⟨ih0, ih1, ih2⟩ := qj.zy k
  refine ⟨?_, ?_, ?_⟩
  ·intro y0 y1 y2 y3
   unfold qj.l0
   repeat' first
   | (with_reducible exact ih0 _ _ _ _)
   | (with_reducible exact ih1 _ _ _ _ _ _ _ _ _)
   | (with_reducible exact ih2 _ _ _ _ _ _ _ _ _)
   | (with_reducible exact zb.mono _ _)
   | (with_reducible exact qf.mono _ _ _)
   | (with_reducible exact LeO.refl _)
   | (with_reducible exact LeO.none _)
   | (with_reducible refine LeO.ite ?_ ?_)
   | (with_reducible refine LeO.bind ?_ (fun _ => ?_))
  ·intro y0 y1 y2 y3 y4 y5 y6 y7 y8
   unfold qj.j1
   repeat' first
   | (with_reducible exact ih0 _ _ _ _)
   | (with_reducible exact ih1 _ _ _ _ _ _ _ _ _)
   | (with_reducible exact ih2 _ _ _ _ _ _ _ _ _)
   | (with_reducible exact zb.mono _ _)
   | (with_reducible exact qf.mono _ _ _)
   | (with_reducible exact LeO.refl _)
   | (with_reducible exact LeO.none _)
   | (with_reducible refine LeO.ite ?_ ?_)
   | (with_reducible refine LeO.bind ?_ (fun _ => ?_))
  ·intro y0 y1 y2 y3 y4 y5 y6 y7 y8
   unfold qj.l1
   repeat' first
   | (with_reducible exact ih0 _ _ _ _)
   | (with_reducible exact ih1 _ _ _ _ _ _ _ _ _)
   | (with_reducible exact ih2 _ _ _ _ _ _ _ _ _)
   | (with_reducible exact zb.mono _ _)
   | (with_reducible exact qf.mono _ _ _)
   | (with_reducible exact LeO.refl _)
   | (with_reducible exact LeO.none _)
   | (with_reducible refine LeO.ite ?_ ?_)
   | (with_reducible refine LeO.bind ?_ (fun _ => ?_))
theorem qj.mono : ∀ a0 k, LeO (qj.f k a0) (qj.f (k + 1) a0) := by
 intro a0 k
 obtain ⟨ih0, ih1, ih2⟩ := qj.zy k
 unfold qj.f
 repeat' first
   | (with_reducible exact ih0 _ _ _ _)
   | (with_reducible exact ih1 _ _ _ _ _ _ _ _ _)
   | (with_reducible exact ih2 _ _ _ _ _ _ _ _ _)
   | (with_reducible exact zb.mono _ _)
   | (with_reducible exact qf.mono _ _ _)
   | (with_reducible exact LeO.refl _)
   | (with_reducible exact LeO.none _)
   | (with_reducible refine LeO.ite ?_ ?_)
   | (with_reducible refine LeO.bind ?_ (fun _ => ?_))
set_option maxHeartbeats 8000000 in
set_option maxRecDepth 100000 in
theorem qj.calls (k : Nat) (A0 : Option Addr) (c0 : Nat) (l0 : List (S26)) (r : Int) (w : World) (hr0 : Kd.C k26 w A0 l0.length l0) (hc0 : l0.length ≤ c0) (h : qj.f k l0 = some r) :
  Calls Tryd.prog 20 #[.slice A0 l0.length c0] w fun e w' => e = .returned (.int .i64 r) ∧ Below w.heap.size w w' := by
 have hu26 := Tryd.underlying26
 have HR0 := qb.mk hr0
 have HC0 := qb.mk hc0
 clear hr0 hc0
 have HB := qb.mk (Below.refl w.heap.size w)
 have H : (qj.l0 k l0 l0 (l0.length : Int) 0) = some r := h
 clear h
 have H' := qb.mk H
 clear H
 go_enter Tryd.func20, Tryd.ntmps20
 go_wp2
 repeat (go_quiet (fail); try go_wp2)
 go_loopg [8] k (fun kq v8 w' => ∃ (x8_1 : Int), v8 = .int .i64 x8_1 ∧ qb (qj.l0 kq l0 l0 (l0.length : Int) x8_1 = some r) ∧ qb (kq ≤ k) ∧ qb (Below w.heap.size w w'))
 case atStart => exact ⟨(0), (by first | rfl | (simp; done) | (simp [*]; done)), H', ⟨Nat.le_refl _⟩, ⟨by repeat (first | (with_reducible first | exact HB.out | apply qc | apply qa | apply qd) | exact HB.out)⟩⟩
 case round =>
  clear H'
  obtain ⟨x8_1, rfl, HA, HK1, HB⟩ := hrel
  cases gk with
  | zero => exact absurd HA.out (by simp [qj.l0])
  | succ k1 =>
   have H := HA.out
   clear HA
   simp only [qj.l0] at H
   by_cases c2 : x8_1 < (l0.length : Int)
   ·rw [if_pos c2] at H
    have c2b0 : decide (x8_1 < (l0.length : Int)) = true := decide_eq_true c2
    clear c2
    by_cases c3 : 0 ≤ x8_1
    ·rw [if_pos c3] at H
     have c3b0 : decide (0 ≤ x8_1) = true := decide_eq_true c3
     clear c3
     by_cases c4 : x8_1 < (l0.length : Int)
     ·rw [if_pos c4] at H
      have c4b0 : decide (x8_1 < (l0.length : Int)) = true := decide_eq_true c4
      clear c4
      replace H := Option.bind_eq_some_iff.mp H
      obtain ⟨t248, A50, H⟩ := H
      replace H : (if t248 = true then (if (((qm l0 x8_1).f2).size : Int) = 0 then (qj.j1 k1 l0 x8_1 l0 (l0.length : Int) x8_1 true ((qm l0 x8_1).f0) ((qm l0 x8_1).f1) ((qm l0 x8_1).f2)) else ((qf.f k1 ((qm l0 x8_1).f1) ((qm l0 x8_1).f2)).bind fun t249 => (qj.j1 k1 l0 x8_1 l0 (l0.length : Int) x8_1 (!t249) ((qm l0 x8_1).f0) ((qm l0 x8_1).f1) ((qm l0 x8_1).f2)))) else (some 11)) = some r := H
      have A5 := qb.mk A50
      clear A50
      by_cases c6 : t248 = true
      ·subst c6
       have H1 : (if (((qm l0 x8_1).f2).size : Int) = 0 then (qj.j1 k1 l0 x8_1 l0 (l0.length : Int) x8_1 true ((qm l0 x8_1).f0) ((qm l0 x8_1).f1) ((qm l0 x8_1).f2)) else ((qf.f k1 ((qm l0 x8_1).f1) ((qm l0 x8_1).f2)).bind fun t249 => (qj.j1 k1 l0 x8_1 l0 (l0.length : Int) x8_1 (!t249) ((qm l0 x8_1).f0) ((qm l0 x8_1).f1) ((qm l0 x8_1).f2)))) = some r := by rw [if_pos rfl] at H; exact H
       clear H
       have H := H1
       clear H1
       have HC7 := qb.mk H
       clear H
       have p246 : 0 ≤ (x8_1 : Int) := of_decide_eq_true (by first | (with_reducible assumption) | assumption)
       have q246 : x8_1 < (l0.length : Int) := of_decide_eq_true (by first | (with_reducible assumption) | assumption)
       obtain ⟨ad246, e246, hx246_0, hx246_1, hx246_2⟩ := at_T26 HR0.out x8_1 p246 q246
       cases e246
       replace hx246_0 := (HB.out.cell (World.block_lt_of_cell? w _ hx246_0)).trans hx246_0
       replace hx246_1 := (HB.out.cell (World.block_lt_of_cell? w _ hx246_1)).trans hx246_1
       replace hx246_2 := (HB.out.cell (World.block_lt_of_cell? w _ hx246_2)).trans hx246_2
       replace p246 := eq_true p246
       replace q246 := eq_true q246
       go_upto_region 6 with (first | ((with_reducible refine zl (N := 4) rfl ?_); refine zi ?hg (N := 4) ?hd (cs := #[.string (⟨#[]⟩ : ByteArray), .int .i64 0, .string (⟨#[]⟩ : ByteArray)]) (t := 26) ?hr ?_; (case hd => rfl); (case hg => rfl); (case hr => first | (go_simp; done) | (go_simp; rfl)); intro gb247 hg w8 hbox hb; have n0_ := qb.mk (qr (by repeat (first | (with_reducible first | exact HB.out | apply qc | apply qa | apply qd) | exact HB.out)) hb); have n1_ := qb.mk (hbox); have n2_ := qb.mk ((by rw [hg]; exact (qt (by repeat (first | (with_reducible first | exact HB.out | apply qc | apply qa | apply qd) | exact HB.out))) : w.heap.size ≤ gb247)); have n3_ := qb.mk ((by rw [hg]; exact (qt (by repeat (first | (with_reducible first | exact HB.out | apply qc | apply qa | apply qd) | exact HB.out))) : w.heap.size ≤ gb247)); clear HB; have HB := n0_; have BK247 := n1_; have GW247 := n2_; have GE247 := n3_; clear n0_ n1_ n2_ n3_; clear hb hbox hg; have hcz9_0 : w8.cell? ⟨gb247, 0, none⟩ = some (.string (⟨#[]⟩ : ByteArray)) := (qq BK247.out 0).trans rfl; have hcz9_1 : w8.cell? ⟨gb247, 1, none⟩ = some (.int .i64 0) := (qq BK247.out 1).trans rfl; have hcz9_2 : w8.cell? ⟨gb247, 2, none⟩ = some (.string (⟨#[]⟩ : ByteArray)) := (qq BK247.out 2).trans rfl; have hfz9_0 := qo BK247.out 0; have hfz9_1 := qo BK247.out 1; have hfz9_2 := qo BK247.out 2) | (go_at_call 28; (with_reducible refine (zb.calls k1 ((qm l0 x8_1).f0) true _ A5.out).mono ?_); rintro e w10 ⟨rfl, hb⟩; have n0_ := qb.mk (qz (g := gb247) (o := .cells #[.string ((qm l0 x8_1).f0), .int .i64 ((qm l0 x8_1).f1), .string ((qm l0 x8_1).f2)] 26 (0, 0)) (by (with_reducible repeat (first | refine qi ?_ _ | refine ql ?_ | refine qg ?_ _)); refine zj (cs := #[.string ((qm l0 x8_1).f0), .int .i64 ((qm l0 x8_1).f1), .string (⟨#[]⟩ : ByteArray)]) ?_ 2 _ rfl; (with_reducible repeat (first | refine qi ?_ _ | refine ql ?_ | refine qg ?_ _)); refine zj (cs := #[.string ((qm l0 x8_1).f0), .int .i64 0, .string (⟨#[]⟩ : ByteArray)]) ?_ 1 _ rfl; (with_reducible repeat (first | refine qi ?_ _ | refine ql ?_ | refine qg ?_ _)); refine zj (cs := #[.string (⟨#[]⟩ : ByteArray), .int .i64 0, .string (⟨#[]⟩ : ByteArray)]) ?_ 0 _ rfl; (with_reducible repeat (first | refine qi ?_ _ | refine ql ?_ | refine qg ?_ _)); exact BK247.out) hb); have n1_ := qb.mk (qr (by repeat (first | (with_reducible first | exact HB.out | apply qc | apply qa | apply qd | refine qh ?_ GE247.out) | exact HB.out)) hb); clear BK247; clear HB; have BK247 := n0_; have HB := n1_; clear n0_ n1_; (try clear hb); (try clear hb2); (try clear hk); (try clear hi)))
       repeat (go_quiet (first | ((with_reducible refine zl (N := 4) rfl ?_); refine zi ?hg (N := 4) ?hd (cs := #[.string (⟨#[]⟩ : ByteArray), .int .i64 0, .string (⟨#[]⟩ : ByteArray)]) (t := 26) ?hr ?_; (case hd => rfl); (case hg => rfl); (case hr => first | (go_simp; done) | (go_simp; rfl)); intro gb247 hg w8 hbox hb; have n0_ := qb.mk (qr (by repeat (first | (with_reducible first | exact HB.out | apply qc | apply qa | apply qd) | exact HB.out)) hb); have n1_ := qb.mk (hbox); have n2_ := qb.mk ((by rw [hg]; exact (qt (by repeat (first | (with_reducible first | exact HB.out | apply qc | apply qa | apply qd) | exact HB.out))) : w.heap.size ≤ gb247)); have n3_ := qb.mk ((by rw [hg]; exact (qt (by repeat (first | (with_reducible first | exact HB.out | apply qc | apply qa | apply qd) | exact HB.out))) : w.heap.size ≤ gb247)); clear HB; have HB := n0_; have BK247 := n1_; have GW247 := n2_; have GE247 := n3_; clear n0_ n1_ n2_ n3_; clear hb hbox hg; have hcz9_0 : w8.cell? ⟨gb247, 0, none⟩ = some (.string (⟨#[]⟩ : ByteArray)) := (qq BK247.out 0).trans rfl; have hcz9_1 : w8.cell? ⟨gb247, 1, none⟩ = some (.int .i64 0) := (qq BK247.out 1).trans rfl; have hcz9_2 : w8.cell? ⟨gb247, 2, none⟩ = some (.string (⟨#[]⟩ : ByteArray)) := (qq BK247.out 2).trans rfl; have hfz9_0 := qo BK247.out 0; have hfz9_1 := qo BK247.out 1; have hfz9_2 := qo BK247.out 2) | (go_at_call 28; (with_reducible refine (zb.calls k1 ((qm l0 x8_1).f0) true _ A5.out).mono ?_); rintro e w10 ⟨rfl, hb⟩; have n0_ := qb.mk (qz (g := gb247) (o := .cells #[.string ((qm l0 x8_1).f0), .int .i64 ((qm l0 x8_1).f1), .string ((qm l0 x8_1).f2)] 26 (0, 0)) (by (with_reducible repeat (first | refine qi ?_ _ | refine ql ?_ | refine qg ?_ _)); refine zj (cs := #[.string ((qm l0 x8_1).f0), .int .i64 ((qm l0 x8_1).f1), .string (⟨#[]⟩ : ByteArray)]) ?_ 2 _ rfl; (with_reducible repeat (first | refine qi ?_ _ | refine ql ?_ | refine qg ?_ _)); refine zj (cs := #[.string ((qm l0 x8_1).f0), .int .i64 0, .string (⟨#[]⟩ : ByteArray)]) ?_ 1 _ rfl; (with_reducible repeat (first | refine qi ?_ _ | refine ql ?_ | refine qg ?_ _)); refine zj (cs := #[.string (⟨#[]⟩ : ByteArray), .int .i64 0, .string (⟨#[]⟩ : ByteArray)]) ?_ 0 _ rfl; (with_reducible repeat (first | refine qi ?_ _ | refine ql ?_ | refine qg ?_ _)); exact BK247.out) hb); have n1_ := qb.mk (qr (by repeat (first | (with_reducible first | exact HB.out | apply qc | apply qa | apply qd | refine qh ?_ GE247.out) | exact HB.out)) hb); clear BK247; clear HB; have BK247 := n0_; have HB := n1_; clear n0_ n1_; (try clear hb); (try clear hb2); (try clear hk); (try clear hi))); go_upto_region 6 with (first | ((with_reducible refine zl (N := 4) rfl ?_); refine zi ?hg (N := 4) ?hd (cs := #[.string (⟨#[]⟩ : ByteArray), .int .i64 0, .string (⟨#[]⟩ : ByteArray)]) (t := 26) ?hr ?_; (case hd => rfl); (case hg => rfl); (case hr => first | (go_simp; done) | (go_simp; rfl)); intro gb247 hg w8 hbox hb; have n0_ := qb.mk (qr (by repeat (first | (with_reducible first | exact HB.out | apply qc | apply qa | apply qd) | exact HB.out)) hb); have n1_ := qb.mk (hbox); have n2_ := qb.mk ((by rw [hg]; exact (qt (by repeat (first | (with_reducible first | exact HB.out | apply qc | apply qa | apply qd) | exact HB.out))) : w.heap.size ≤ gb247)); have n3_ := qb.mk ((by rw [hg]; exact (qt (by repeat (first | (with_reducible first | exact HB.out | apply qc | apply qa | apply qd) | exact HB.out))) : w.heap.size ≤ gb247)); clear HB; have HB := n0_; have BK247 := n1_; have GW247 := n2_; have GE247 := n3_; clear n0_ n1_ n2_ n3_; clear hb hbox hg; have hcz9_0 : w8.cell? ⟨gb247, 0, none⟩ = some (.string (⟨#[]⟩ : ByteArray)) := (qq BK247.out 0).trans rfl; have hcz9_1 : w8.cell? ⟨gb247, 1, none⟩ = some (.int .i64 0) := (qq BK247.out 1).trans rfl; have hcz9_2 : w8.cell? ⟨gb247, 2, none⟩ = some (.string (⟨#[]⟩ : ByteArray)) := (qq BK247.out 2).trans rfl; have hfz9_0 := qo BK247.out 0; have hfz9_1 := qo BK247.out 1; have hfz9_2 := qo BK247.out 2) | (go_at_call 28; (with_reducible refine (zb.calls k1 ((qm l0 x8_1).f0) true _ A5.out).mono ?_); rintro e w10 ⟨rfl, hb⟩; have n0_ := qb.mk (qz (g := gb247) (o := .cells #[.string ((qm l0 x8_1).f0), .int .i64 ((qm l0 x8_1).f1), .string ((qm l0 x8_1).f2)] 26 (0, 0)) (by (with_reducible repeat (first | refine qi ?_ _ | refine ql ?_ | refine qg ?_ _)); refine zj (cs := #[.string ((qm l0 x8_1).f0), .int .i64 ((qm l0 x8_1).f1), .string (⟨#[]⟩ : ByteArray)]) ?_ 2 _ rfl; (with_reducible repeat (first | refine qi ?_ _ | refine ql ?_ | refine qg ?_ _)); refine zj (cs := #[.string ((qm l0 x8_1).f0), .int .i64 0, .string (⟨#[]⟩ : ByteArray)]) ?_ 1 _ rfl; (with_reducible repeat (first | refine qi ?_ _ | refine ql ?_ | refine qg ?_ _)); refine zj (cs := #[.string (⟨#[]⟩ : ByteArray), .int .i64 0, .string (⟨#[]⟩ : ByteArray)]) ?_ 0 _ rfl; (with_reducible repeat (first | refine qi ?_ _ | refine ql ?_ | refine qg ?_ _)); exact BK247.out) hb); have n1_ := qb.mk (qr (by repeat (first | (with_reducible first | exact HB.out | apply qc | apply qa | apply qd | refine qh ?_ GE247.out) | exact HB.out)) hb); clear BK247; clear HB; have BK247 := n0_; have HB := n1_; clear n0_ n1_; (try clear hb); (try clear hb2); (try clear hk); (try clear hi))))
       (try simp only [Act.put, List.setIfInBounds_toArray, List.set_cons_zero, List.set_cons_succ])
       go_cut [28] (fun v28 wc => ∃ (kq : Nat) (x28_6 : Bool), v28 = .bool x28_6 ∧ qb (qj.j1 kq l0 x8_1 l0 (l0.length : Int) x8_1 x28_6 ((qm l0 x8_1).f0) ((qm l0 x8_1).f1) ((qm l0 x8_1).f2) = some r) ∧ qb (kq ≤ k1) ∧ qb (wc.heap[gb247]? = some (.cells #[.string ((qm l0 x8_1).f0), .int .i64 ((qm l0 x8_1).f1), .string ((qm l0 x8_1).f2)] 26 (0, 0))) ∧ qb (Below w.heap.size w wc))
       case first =>
        have H := HC7.out
        clear HC7
        by_cases c11 : (((qm l0 x8_1).f2).size : Int) = 0
        ·rw [if_pos c11] at H
         have c11b0 : ((((qm l0 x8_1).f2).size : Int) == 0) = true := beq_iff_eq.mpr c11
         have c11b1 : ((((qm l0 x8_1).f2).size : Int) != 0) = false := bne_eq_false_iff_eq.mpr c11
         clear c11
         (first | rw [c11b0] | (simp only [zk, zm]; rw [c11b0]) | skip)
         have H' := qb.mk H
         clear H
         have hcz12_0 : w10.cell? ⟨gb247, 0, none⟩ = some (.string ((qm l0 x8_1).f0)) := (qq BK247.out 0).trans rfl
         have hcz12_1 : w10.cell? ⟨gb247, 1, none⟩ = some (.int .i64 ((qm l0 x8_1).f1)) := (qq BK247.out 1).trans rfl
         have hcz12_2 : w10.cell? ⟨gb247, 2, none⟩ = some (.string ((qm l0 x8_1).f2)) := (qq BK247.out 2).trans rfl
         have hfz12_0 := qo BK247.out 0
         have hfz12_1 := qo BK247.out 1
         have hfz12_2 := qo BK247.out 2
         go_wp2
         repeat (go_quiet (fail); try go_wp2)
         go_meet
         case rel => exact ⟨_, (true), (by first | rfl | (simp; done) | (simp [*]; done)), H', ⟨by have := HK1.out; first | omega | exact Nat.le_refl _⟩, ⟨by (with_reducible repeat (first | refine qi ?_ _ | refine ql ?_ | refine qg ?_ _)); exact BK247.out⟩, ⟨by repeat (first | (with_reducible first | exact HB.out | apply qc | apply qa | apply qd | refine qh ?_ GE247.out) | exact HB.out)⟩⟩
        ·rw [if_neg c11] at H
         have c11b0 : ((((qm l0 x8_1).f2).size : Int) == 0) = false := beq_eq_false_iff_ne.mpr c11
         have c11b1 : ((((qm l0 x8_1).f2).size : Int) != 0) = true := bne_iff_ne.mpr c11
         (first | rw [c11b0] | (simp only [zk, zm]; rw [c11b0]) | skip)
         replace H := Option.bind_eq_some_iff.mp H
         obtain ⟨t249, A130, H⟩ := H
         replace H : (qj.j1 k1 l0 x8_1 l0 (l0.length : Int) x8_1 (!t249) ((qm l0 x8_1).f0) ((qm l0 x8_1).f1) ((qm l0 x8_1).f2)) = some r := H
         have A13 := qb.mk A130
         clear A130
         have H' := qb.mk H
         clear H
         have hcz14_0 : w10.cell? ⟨gb247, 0, none⟩ = some (.string ((qm l0 x8_1).f0)) := (qq BK247.out 0).trans rfl
         have hcz14_1 : w10.cell? ⟨gb247, 1, none⟩ = some (.int .i64 ((qm l0 x8_1).f1)) := (qq BK247.out 1).trans rfl
         have hcz14_2 : w10.cell? ⟨gb247, 2, none⟩ = some (.string ((qm l0 x8_1).f2)) := (qq BK247.out 2).trans rfl
         have hfz14_0 := qo BK247.out 0
         have hfz14_1 := qo BK247.out 1
         have hfz14_2 := qo BK247.out 2
         go_wp2_with (first | (go_at_call 29; (with_reducible refine (qf.calls k1 ((qm l0 x8_1).f1) ((qm l0 x8_1).f2) t249 _ A13.out).mono ?_); rintro e w' ⟨rfl, ⟨nd, rfl⟩⟩; (try first | exact ⟨rfl, _, World.drewN_drewN _ _ _⟩ | exact ⟨rfl, _, Eq.trans (World.drewN_drewN _ _ _) (congrArg (World.drewN _) (Nat.add_assoc _ _ _))⟩)))
         repeat (go_quiet (first | (go_at_call 29; (with_reducible refine (qf.calls k1 ((qm l0 x8_1).f1) ((qm l0 x8_1).f2) t249 _ A13.out).mono ?_); rintro e w' ⟨rfl, ⟨nd, rfl⟩⟩; (try first | exact ⟨rfl, _, World.drewN_drewN _ _ _⟩ | exact ⟨rfl, _, Eq.trans (World.drewN_drewN _ _ _) (congrArg (World.drewN _) (Nat.add_assoc _ _ _))⟩))); try go_wp2_with (first | (go_at_call 29; (with_reducible refine (qf.calls k1 ((qm l0 x8_1).f1) ((qm l0 x8_1).f2) t249 _ A13.out).mono ?_); rintro e w' ⟨rfl, ⟨nd, rfl⟩⟩; (try first | exact ⟨rfl, _, World.drewN_drewN _ _ _⟩ | exact ⟨rfl, _, Eq.trans (World.drewN_drewN _ _ _) (congrArg (World.drewN _) (Nat.add_assoc _ _ _))⟩))))
         go_meet
         case rel => exact ⟨_, (!t249), (by first | rfl | (simp; done) | (simp [*]; done)), H', ⟨by have := HK1.out; first | omega | exact Nat.le_refl _⟩, ⟨by (with_reducible repeat (first | refine qi ?_ _ | refine ql ?_ | refine qg ?_ _)); exact BK247.out⟩, ⟨by repeat (first | (with_reducible first | exact HB.out | apply qc | apply qa | apply qd | refine qh ?_ GE247.out) | exact HB.out)⟩⟩
       case rest =>
        clear HC7
        (try clear c1); (try clear c2); (try clear c2b0); (try clear p2); (try clear q2); (try clear hx2); (try clear c3); (try clear c3b0); (try clear c4); (try clear c4b0); (try clear c6); try clear c11
        (try clear c11b0); (try clear c11b1); (try clear hcz12_0); (try clear hcz12_1); (try clear hcz12_2); (try clear hcz14_0); (try clear hcz14_1); (try clear hcz14_2); (try clear hcz9_0); try clear hcz9_1
        (try clear hcz9_2); (try clear hfz12_0); (try clear hfz12_1); (try clear hfz12_2); (try clear hfz14_0); (try clear hfz14_1); (try clear hfz14_2); (try clear hfz9_0); (try clear hfz9_1); try clear hfz9_2
        (try clear hx246_0); (try clear hx246_1); (try clear hx246_2); (try clear p246); try clear q246
        obtain ⟨kq, x28_6, rfl, HA, HJ6, BK247, HB⟩ := hcut
        cases kq with
        | zero => exact absurd HA.out (by simp [qj.j1])
        | succ kj6 =>
         have H := HA.out
         clear HA
         simp only [qj.j1] at H
         by_cases c15 : x28_6 = true
         ·subst c15
          have H1 : (some 13) = some r := by rw [if_pos rfl] at H; exact H
          clear H
          have H := H1
          clear H1
          obtain rfl := Option.some.inj H
          go_wp2
          repeat (go_quiet (fail); try go_wp2)
          go_ret
          exact ⟨by first | rfl | (simp [qv, qu] <;> rfl) | (simp [*, qv, qu] <;> rfl), by repeat (first | (with_reducible first | exact HB.out | apply qc | apply qa | apply qd | refine qh ?_ GE247.out) | exact HB.out)⟩
         ·replace c15 := Bool.eq_false_iff.mpr c15
          subst c15
          have H1 : (if (((qm l0 x8_1).f2).size : Int) > 64 then (some 2) else (qj.l1 kj6 l0 x8_1 0 l0 (l0.length : Int) x8_1 ((qm l0 x8_1).f0) ((qm l0 x8_1).f1) ((qm l0 x8_1).f2))) = some r := by rw [if_neg (show ¬ (false = true) by decide)] at H; exact H
          clear H
          have H := H1
          clear H1
          by_cases c16 : (((qm l0 x8_1).f2).size : Int) > 64
          ·rw [if_pos c16] at H
           have c16b0 : decide (64 < (((qm l0 x8_1).f2).size : Int)) = true := decide_eq_true c16
           have c16b1 : decide (64 < ((qm l0 x8_1).f2).size) = true := decide_eq_true (by omega)
           clear c16
           obtain rfl := Option.some.inj H
           have hcz17_0 : wc.cell? ⟨gb247, 0, none⟩ = some (.string ((qm l0 x8_1).f0)) := (qq BK247.out 0).trans rfl
           have hcz17_1 : wc.cell? ⟨gb247, 1, none⟩ = some (.int .i64 ((qm l0 x8_1).f1)) := (qq BK247.out 1).trans rfl
           have hcz17_2 : wc.cell? ⟨gb247, 2, none⟩ = some (.string ((qm l0 x8_1).f2)) := (qq BK247.out 2).trans rfl
           have hfz17_0 := qo BK247.out 0
           have hfz17_1 := qo BK247.out 1
           have hfz17_2 := qo BK247.out 2
           go_wp2
           repeat (go_quiet (fail); try go_wp2)
           go_ret
           exact ⟨by first | rfl | (simp [qv, qu] <;> rfl) | (simp [*, qv, qu] <;> rfl), by repeat (first | (with_reducible first | exact HB.out | apply qc | apply qa | apply qd | refine qh ?_ GE247.out) | exact HB.out)⟩
          ·rw [if_neg c16] at H
           have c16b0 : decide (64 < (((qm l0 x8_1).f2).size : Int)) = false := decide_eq_false c16
           have c16b1 : decide (64 < ((qm l0 x8_1).f2).size) = false := decide_eq_false (by omega)
           clear c16
           have H' := qb.mk H
           clear H
           have hcz18_0 : wc.cell? ⟨gb247, 0, none⟩ = some (.string ((qm l0 x8_1).f0)) := (qq BK247.out 0).trans rfl
           have hcz18_1 : wc.cell? ⟨gb247, 1, none⟩ = some (.int .i64 ((qm l0 x8_1).f1)) := (qq BK247.out 1).trans rfl
           have hcz18_2 : wc.cell? ⟨gb247, 2, none⟩ = some (.string ((qm l0 x8_1).f2)) := (qq BK247.out 2).trans rfl
           have hfz18_0 := qo BK247.out 0
           have hfz18_1 := qo BK247.out 1
           have hfz18_2 := qo BK247.out 2
           go_wp2
           repeat (go_quiet (fail); try go_wp2)
           go_loopg [5] kj6 (fun kq v5 w' => ∃ (x5_3 : Int), v5 = .int .i64 x5_3 ∧ qb (qj.l1 kq l0 x8_1 x5_3 l0 (l0.length : Int) x8_1 ((qm l0 x8_1).f0) ((qm l0 x8_1).f1) ((qm l0 x8_1).f2) = some r) ∧ qb (kq ≤ kj6) ∧ qb (w'.heap[gb247]? = some (.cells #[.string ((qm l0 x8_1).f0), .int .i64 ((qm l0 x8_1).f1), .string ((qm l0 x8_1).f2)] 26 (0, 0))) ∧ qb (Below w.heap.size w w'))
           case atStart => exact ⟨(0), (by first | rfl | (simp; done) | (simp [*]; done)), H', ⟨Nat.le_refl _⟩, ⟨by (with_reducible repeat (first | refine qi ?_ _ | refine ql ?_ | refine qg ?_ _)); exact BK247.out⟩, ⟨by repeat (first | (with_reducible first | exact HB.out | apply qc | apply qa | apply qd | refine qh ?_ GE247.out) | exact HB.out)⟩⟩
           case round =>
            clear H'
            (try clear c1); (try clear c2); (try clear c2b0); (try clear p2); (try clear q2); (try clear hx2); (try clear c3); (try clear c3b0); (try clear c4); (try clear c4b0); try clear c6
            (try clear c11); (try clear c11b0); (try clear c11b1); (try clear c15); (try clear c16); (try clear c16b0); (try clear c16b1); (try clear hcz12_0); (try clear hcz12_1); try clear hcz12_2
            (try clear hcz14_0); (try clear hcz14_1); (try clear hcz14_2); (try clear hcz17_0); (try clear hcz17_1); (try clear hcz17_2); (try clear hcz18_0); (try clear hcz18_1); try clear hcz18_2
            (try clear hcz9_0); (try clear hcz9_1); (try clear hcz9_2); (try clear hfz12_0); (try clear hfz12_1); (try clear hfz12_2); (try clear hfz14_0); (try clear hfz14_1); try clear hfz14_2
            (try clear hfz17_0); (try clear hfz17_1); (try clear hfz17_2); (try clear hfz18_0); (try clear hfz18_1); (try clear hfz18_2); (try clear hfz9_0); (try clear hfz9_1); try clear hfz9_2
            (try clear hx246_0); (try clear hx246_1); (try clear hx246_2); (try clear p2); (try clear p246); (try clear q2); try clear q246
            obtain ⟨x5_3, rfl, HA, HK3, BK247, HB⟩ := hrel
            cases gk with
            | zero => exact absurd HA.out (by simp [qj.l1])
            | succ k3 =>
             have H := HA.out
             clear HA
             simp only [qj.l1] at H
             by_cases c19 : x5_3 < x8_1
             ·rw [if_pos c19] at H
              have c19b0 : decide (x5_3 < x8_1) = true := decide_eq_true c19
              clear c19
              by_cases c20 : 0 ≤ x5_3
              ·rw [if_pos c20] at H
               have c20b0 : decide (0 ≤ x5_3) = true := decide_eq_true c20
               clear c20
               by_cases c21 : x5_3 < (l0.length : Int)
               ·rw [if_pos c21] at H
                have c21b0 : decide (x5_3 < (l0.length : Int)) = true := decide_eq_true c21
                clear c21
                by_cases c22 : ((qm l0 x5_3).f0).toList = ((qm l0 x8_1).f0).toList
                ·rw [if_pos c22] at H
                 have c22b0 : (((qm l0 x5_3).f0).toList == ((qm l0 x8_1).f0).toList) = true := beq_iff_eq.mpr c22
                 have c22b1 : (((qm l0 x5_3).f0).toList != ((qm l0 x8_1).f0).toList) = false := bne_eq_false_iff_eq.mpr c22
                 clear c22
                 obtain rfl := Option.some.inj H
                 have p250 : 0 ≤ (x5_3 : Int) := of_decide_eq_true (by first | (with_reducible assumption) | assumption)
                 have q250 : x5_3 < (l0.length : Int) := of_decide_eq_true (by first | (with_reducible assumption) | assumption)
                 obtain ⟨ad250, e250, hx250_0, hx250_1, hx250_2⟩ := at_T26 HR0.out x5_3 p250 q250
                 obtain rfl : ad246 = ad250 := (by injection e250)
                 replace hx250_0 := (HB.out.cell (World.block_lt_of_cell? w _ hx250_0)).trans hx250_0
                 replace hx250_1 := (HB.out.cell (World.block_lt_of_cell? w _ hx250_1)).trans hx250_1
                 replace hx250_2 := (HB.out.cell (World.block_lt_of_cell? w _ hx250_2)).trans hx250_2
                 replace p250 := eq_true p250
                 replace q250 := eq_true q250
                 have hcz23_0 : wr.cell? ⟨gb247, 0, none⟩ = some (.string ((qm l0 x8_1).f0)) := (qq BK247.out 0).trans rfl
                 have hcz23_1 : wr.cell? ⟨gb247, 1, none⟩ = some (.int .i64 ((qm l0 x8_1).f1)) := (qq BK247.out 1).trans rfl
                 have hcz23_2 : wr.cell? ⟨gb247, 2, none⟩ = some (.string ((qm l0 x8_1).f2)) := (qq BK247.out 2).trans rfl
                 have hfz23_0 := qo BK247.out 0
                 have hfz23_1 := qo BK247.out 1
                 have hfz23_2 := qo BK247.out 2
                 go_wp2
                 repeat (go_quiet (fail); try go_wp2)
                 go_ret
                 exact ⟨by first | rfl | (simp [qv, qu] <;> rfl) | (simp [*, qv, qu] <;> rfl), by repeat (first | (with_reducible first | exact HB.out | apply qc | apply qa | apply qd | refine qh ?_ GE247.out) | exact HB.out)⟩
                ·rw [if_neg c22] at H
                 have c22b0 : (((qm l0 x5_3).f0).toList == ((qm l0 x8_1).f0).toList) = false := beq_eq_false_iff_ne.mpr c22
                 have c22b1 : (((qm l0 x5_3).f0).toList != ((qm l0 x8_1).f0).toList) = true := bne_iff_ne.mpr c22
                 have H' := qb.mk H
                 clear H
                 have p250 : 0 ≤ (x5_3 : Int) := of_decide_eq_true (by first | (with_reducible assumption) | assumption)
                 have q250 : x5_3 < (l0.length : Int) := of_decide_eq_true (by first | (with_reducible assumption) | assumption)
                 obtain ⟨ad250, e250, hx250_0, hx250_1, hx250_2⟩ := at_T26 HR0.out x5_3 p250 q250
                 obtain rfl : ad246 = ad250 := (by injection e250)
                 replace hx250_0 := (HB.out.cell (World.block_lt_of_cell? w _ hx250_0)).trans hx250_0
                 replace hx250_1 := (HB.out.cell (World.block_lt_of_cell? w _ hx250_1)).trans hx250_1
                 replace hx250_2 := (HB.out.cell (World.block_lt_of_cell? w _ hx250_2)).trans hx250_2
                 replace p250 := eq_true p250
                 replace q250 := eq_true q250
                 have hcz24_0 : wr.cell? ⟨gb247, 0, none⟩ = some (.string ((qm l0 x8_1).f0)) := (qq BK247.out 0).trans rfl
                 have hcz24_1 : wr.cell? ⟨gb247, 1, none⟩ = some (.int .i64 ((qm l0 x8_1).f1)) := (qq BK247.out 1).trans rfl
                 have hcz24_2 : wr.cell? ⟨gb247, 2, none⟩ = some (.string ((qm l0 x8_1).f2)) := (qq BK247.out 2).trans rfl
                 have hfz24_0 := qo BK247.out 0
                 have hfz24_1 := qo BK247.out 1
                 have hfz24_2 := qo BK247.out 2
                 go_wp2
                 repeat (go_quiet (fail); try go_wp2)
                 go_roundg k3
                 case measure => have := HK1.out; have := HJ6.out; have := HK3.out; omega
                 case rel => exact ⟨(wrap64 (x5_3 + 1)), (by first | rfl | (simp; done) | (simp [*]; done)), H', ⟨by have := HK1.out; have := HJ6.out; have := HK3.out; omega⟩, ⟨by (with_reducible repeat (first | refine qi ?_ _ | refine ql ?_ | refine qg ?_ _)); exact BK247.out⟩, ⟨by repeat (first | (with_reducible first | exact HB.out | apply qc | apply qa | apply qd | refine qh ?_ GE247.out) | exact HB.out)⟩⟩
               ·rw [if_neg c21] at H
                exact absurd H (by simp)
              ·rw [if_neg c20] at H
               exact absurd H (by simp)
             ·rw [if_neg c19] at H
              have c19b0 : decide (x5_3 < x8_1) = false := decide_eq_false c19
              clear c19
              have H' := qb.mk H
              clear H
              go_wp2
              repeat (go_quiet (fail); try go_wp2)
              go_roundg k3
              case measure => have := HK1.out; have := HJ6.out; have := HK3.out; omega
              case rel => exact ⟨(wrap64 (x8_1 + 1)), (by first | rfl | (simp; done) | (simp [*]; done)), H', ⟨by have := HK1.out; have := HJ6.out; have := HK3.out; omega⟩, ⟨by repeat (first | (with_reducible first | exact HB.out | apply qc | apply qa | apply qd | refine qh ?_ GE247.out) | exact HB.out)⟩⟩
      ·replace c6 := Bool.eq_false_iff.mpr c6
       subst c6
       have H1 : (some 11) = some r := by rw [if_neg (show ¬ (false = true) by decide)] at H; exact H
       clear H
       have H := H1
       clear H1
       obtain rfl := Option.some.inj H
       have p246 : 0 ≤ (x8_1 : Int) := of_decide_eq_true (by first | (with_reducible assumption) | assumption)
       have q246 : x8_1 < (l0.length : Int) := of_decide_eq_true (by first | (with_reducible assumption) | assumption)
       obtain ⟨ad246, e246, hx246_0, hx246_1, hx246_2⟩ := at_T26 HR0.out x8_1 p246 q246
       cases e246
       replace hx246_0 := (HB.out.cell (World.block_lt_of_cell? w _ hx246_0)).trans hx246_0
       replace hx246_1 := (HB.out.cell (World.block_lt_of_cell? w _ hx246_1)).trans hx246_1
       replace hx246_2 := (HB.out.cell (World.block_lt_of_cell? w _ hx246_2)).trans hx246_2
       replace p246 := eq_true p246
       replace q246 := eq_true q246
       go_wp2_with (first | ((with_reducible refine zl (N := 4) rfl ?_); refine zi ?hg (N := 4) ?hd (cs := #[.string (⟨#[]⟩ : ByteArray), .int .i64 0, .string (⟨#[]⟩ : ByteArray)]) (t := 26) ?hr ?_; (case hd => rfl); (case hg => rfl); (case hr => first | (go_simp; done) | (go_simp; rfl)); intro gb247 hg w25 hbox hb; have n0_ := qb.mk (qr (by repeat (first | (with_reducible first | exact HB.out | apply qc | apply qa | apply qd) | exact HB.out)) hb); have n1_ := qb.mk (hbox); have n2_ := qb.mk ((by rw [hg]; exact (qt (by repeat (first | (with_reducible first | exact HB.out | apply qc | apply qa | apply qd) | exact HB.out))) : w.heap.size ≤ gb247)); have n3_ := qb.mk ((by rw [hg]; exact (qt (by repeat (first | (with_reducible first | exact HB.out | apply qc | apply qa | apply qd) | exact HB.out))) : w.heap.size ≤ gb247)); clear HB; have HB := n0_; have BK247 := n1_; have GW247 := n2_; have GE247 := n3_; clear n0_ n1_ n2_ n3_; clear hb hbox hg; have hcz26_0 : w25.cell? ⟨gb247, 0, none⟩ = some (.string (⟨#[]⟩ : ByteArray)) := (qq BK247.out 0).trans rfl; have hcz26_1 : w25.cell? ⟨gb247, 1, none⟩ = some (.int .i64 0) := (qq BK247.out 1).trans rfl; have hcz26_2 : w25.cell? ⟨gb247, 2, none⟩ = some (.string (⟨#[]⟩ : ByteArray)) := (qq BK247.out 2).trans rfl; have hfz26_0 := qo BK247.out 0; have hfz26_1 := qo BK247.out 1; have hfz26_2 := qo BK247.out 2) | (go_at_call 28; (with_reducible refine (zb.calls k1 ((qm l0 x8_1).f0) false _ A5.out).mono ?_); rintro e w27 ⟨rfl, hb⟩; have n0_ := qb.mk (qz (g := gb247) (o := .cells #[.string ((qm l0 x8_1).f0), .int .i64 ((qm l0 x8_1).f1), .string ((qm l0 x8_1).f2)] 26 (0, 0)) (by (with_reducible repeat (first | refine qi ?_ _ | refine ql ?_ | refine qg ?_ _)); refine zj (cs := #[.string ((qm l0 x8_1).f0), .int .i64 ((qm l0 x8_1).f1), .string (⟨#[]⟩ : ByteArray)]) ?_ 2 _ rfl; (with_reducible repeat (first | refine qi ?_ _ | refine ql ?_ | refine qg ?_ _)); refine zj (cs := #[.string ((qm l0 x8_1).f0), .int .i64 0, .string (⟨#[]⟩ : ByteArray)]) ?_ 1 _ rfl; (with_reducible repeat (first | refine qi ?_ _ | refine ql ?_ | refine qg ?_ _)); refine zj (cs := #[.string (⟨#[]⟩ : ByteArray), .int .i64 0, .string (⟨#[]⟩ : ByteArray)]) ?_ 0 _ rfl; (with_reducible repeat (first | refine qi ?_ _ | refine ql ?_ | refine qg ?_ _)); exact BK247.out) hb); have n1_ := qb.mk (qr (by repeat (first | (with_reducible first | exact HB.out | apply qc | apply qa | apply qd | refine qh ?_ GE247.out) | exact HB.out)) hb); clear BK247; clear HB; have BK247 := n0_; have HB := n1_; clear n0_ n1_; (try clear hb); (try clear hb2); (try clear hk); (try clear hi)))
       repeat (go_quiet (first | ((with_reducible refine zl (N := 4) rfl ?_); refine zi ?hg (N := 4) ?hd (cs := #[.string (⟨#[]⟩ : ByteArray), .int .i64 0, .string (⟨#[]⟩ : ByteArray)]) (t := 26) ?hr ?_; (case hd => rfl); (case hg => rfl); (case hr => first | (go_simp; done) | (go_simp; rfl)); intro gb247 hg w25 hbox hb; have n0_ := qb.mk (qr (by repeat (first | (with_reducible first | exact HB.out | apply qc | apply qa | apply qd) | exact HB.out)) hb); have n1_ := qb.mk (hbox); have n2_ := qb.mk ((by rw [hg]; exact (qt (by repeat (first | (with_reducible first | exact HB.out | apply qc | apply qa | apply qd) | exact HB.out))) : w.heap.size ≤ gb247)); have n3_ := qb.mk ((by rw [hg]; exact (qt (by repeat (first | (with_reducible first | exact HB.out | apply qc | apply qa | apply qd) | exact HB.out))) : w.heap.size ≤ gb247)); clear HB; have HB := n0_; have BK247 := n1_; have GW247 := n2_; have GE247 := n3_; clear n0_ n1_ n2_ n3_; clear hb hbox hg; have hcz26_0 : w25.cell? ⟨gb247, 0, none⟩ = some (.string (⟨#[]⟩ : ByteArray)) := (qq BK247.out 0).trans rfl; have hcz26_1 : w25.cell? ⟨gb247, 1, none⟩ = some (.int .i64 0) := (qq BK247.out 1).trans rfl; have hcz26_2 : w25.cell? ⟨gb247, 2, none⟩ = some (.string (⟨#[]⟩ : ByteArray)) := (qq BK247.out 2).trans rfl; have hfz26_0 := qo BK247.out 0; have hfz26_1 := qo BK247.out 1; have hfz26_2 := qo BK247.out 2) | (go_at_call 28; (with_reducible refine (zb.calls k1 ((qm l0 x8_1).f0) false _ A5.out).mono ?_); rintro e w27 ⟨rfl, hb⟩; have n0_ := qb.mk (qz (g := gb247) (o := .cells #[.string ((qm l0 x8_1).f0), .int .i64 ((qm l0 x8_1).f1), .string ((qm l0 x8_1).f2)] 26 (0, 0)) (by (with_reducible repeat (first | refine qi ?_ _ | refine ql ?_ | refine qg ?_ _)); refine zj (cs := #[.string ((qm l0 x8_1).f0), .int .i64 ((qm l0 x8_1).f1), .string (⟨#[]⟩ : ByteArray)]) ?_ 2 _ rfl; (with_reducible repeat (first | refine qi ?_ _ | refine ql ?_ | refine qg ?_ _)); refine zj (cs := #[.string ((qm l0 x8_1).f0), .int .i64 0, .string (⟨#[]⟩ : ByteArray)]) ?_ 1 _ rfl; (with_reducible repeat (first | refine qi ?_ _ | refine ql ?_ | refine qg ?_ _)); refine zj (cs := #[.string (⟨#[]⟩ : ByteArray), .int .i64 0, .string (⟨#[]⟩ : ByteArray)]) ?_ 0 _ rfl; (with_reducible repeat (first | refine qi ?_ _ | refine ql ?_ | refine qg ?_ _)); exact BK247.out) hb); have n1_ := qb.mk (qr (by repeat (first | (with_reducible first | exact HB.out | apply qc | apply qa | apply qd | refine qh ?_ GE247.out) | exact HB.out)) hb); clear BK247; clear HB; have BK247 := n0_; have HB := n1_; clear n0_ n1_; (try clear hb); (try clear hb2); (try clear hk); (try clear hi))); try go_wp2_with (first | ((with_reducible refine zl (N := 4) rfl ?_); refine zi ?hg (N := 4) ?hd (cs := #[.string (⟨#[]⟩ : ByteArray), .int .i64 0, .string (⟨#[]⟩ : ByteArray)]) (t := 26) ?hr ?_; (case hd => rfl); (case hg => rfl); (case hr => first | (go_simp; done) | (go_simp; rfl)); intro gb247 hg w25 hbox hb; have n0_ := qb.mk (qr (by repeat (first | (with_reducible first | exact HB.out | apply qc | apply qa | apply qd) | exact HB.out)) hb); have n1_ := qb.mk (hbox); have n2_ := qb.mk ((by rw [hg]; exact (qt (by repeat (first | (with_reducible first | exact HB.out | apply qc | apply qa | apply qd) | exact HB.out))) : w.heap.size ≤ gb247)); have n3_ := qb.mk ((by rw [hg]; exact (qt (by repeat (first | (with_reducible first | exact HB.out | apply qc | apply qa | apply qd) | exact HB.out))) : w.heap.size ≤ gb247)); clear HB; have HB := n0_; have BK247 := n1_; have GW247 := n2_; have GE247 := n3_; clear n0_ n1_ n2_ n3_; clear hb hbox hg; have hcz26_0 : w25.cell? ⟨gb247, 0, none⟩ = some (.string (⟨#[]⟩ : ByteArray)) := (qq BK247.out 0).trans rfl; have hcz26_1 : w25.cell? ⟨gb247, 1, none⟩ = some (.int .i64 0) := (qq BK247.out 1).trans rfl; have hcz26_2 : w25.cell? ⟨gb247, 2, none⟩ = some (.string (⟨#[]⟩ : ByteArray)) := (qq BK247.out 2).trans rfl; have hfz26_0 := qo BK247.out 0; have hfz26_1 := qo BK247.out 1; have hfz26_2 := qo BK247.out 2) | (go_at_call 28; (with_reducible refine (zb.calls k1 ((qm l0 x8_1).f0) false _ A5.out).mono ?_); rintro e w27 ⟨rfl, hb⟩; have n0_ := qb.mk (qz (g := gb247) (o := .cells #[.string ((qm l0 x8_1).f0), .int .i64 ((qm l0 x8_1).f1), .string ((qm l0 x8_1).f2)] 26 (0, 0)) (by (with_reducible repeat (first | refine qi ?_ _ | refine ql ?_ | refine qg ?_ _)); refine zj (cs := #[.string ((qm l0 x8_1).f0), .int .i64 ((qm l0 x8_1).f1), .string (⟨#[]⟩ : ByteArray)]) ?_ 2 _ rfl; (with_reducible repeat (first | refine qi ?_ _ | refine ql ?_ | refine qg ?_ _)); refine zj (cs := #[.string ((qm l0 x8_1).f0), .int .i64 0, .string (⟨#[]⟩ : ByteArray)]) ?_ 1 _ rfl; (with_reducible repeat (first | refine qi ?_ _ | refine ql ?_ | refine qg ?_ _)); refine zj (cs := #[.string (⟨#[]⟩ : ByteArray), .int .i64 0, .string (⟨#[]⟩ : ByteArray)]) ?_ 0 _ rfl; (with_reducible repeat (first | refine qi ?_ _ | refine ql ?_ | refine qg ?_ _)); exact BK247.out) hb); have n1_ := qb.mk (qr (by repeat (first | (with_reducible first | exact HB.out | apply qc | apply qa | apply qd | refine qh ?_ GE247.out) | exact HB.out)) hb); clear BK247; clear HB; have BK247 := n0_; have HB := n1_; clear n0_ n1_; (try clear hb); (try clear hb2); (try clear hk); (try clear hi))))
       go_ret
       exact ⟨by first | rfl | (simp [qv, qu] <;> rfl) | (simp [*, qv, qu] <;> rfl), by repeat (first | (with_reducible first | exact HB.out | apply qc | apply qa | apply qd | refine qh ?_ GE247.out) | exact HB.out)⟩
     ·rw [if_neg c4] at H
      exact absurd H (by simp)
    ·rw [if_neg c3] at H
     exact absurd H (by simp)
   ·rw [if_neg c2] at H
    have c2b0 : decide (x8_1 < (l0.length : Int)) = false := decide_eq_false c2
    clear c2
    obtain rfl := Option.some.inj H
    go_wp2
    repeat (go_quiet (fail); try go_wp2)
    go_ret
    exact ⟨by first | rfl | (simp [qv, qu] <;> rfl) | (simp [*, qv, qu] <;> rfl), by repeat (first | (with_reducible first | exact HB.out | apply qc | apply qa | apply qd) | exact HB.out)⟩
end Go.Proofs.YtjhlinifnjoefaaDoor.C
end
