/- Words, walks and plain laws that the claim rests on, gathered. -/
import Derived.Test.YthdoohfdminfgaaGreatDoorProg
import Derived.WalkSpells
import Derived.Below
import Derived.Deep.Draws
import Derived.Deep.AppendLies
import Derived.Maps.AppendAt
import Derived.OwnWalk
import Derived.Laws.BytesArg
import Derived.Laws.MakeOwn
import Derived.Laws.OwnMore
import Derived.Deep.OwnRows
import Derived.Tactics
import Derived.Lib.ConvBytes
import Derived.Laws.Slices
import Derived.WalkKit
import Derived.KernelRfl
import Derived.RowKit3
import Derived.Deep.LoopGhost
import Derived.Deep.QuietTactic
import Derived.BigQuiet
import Derived.WideLaws
import Derived.Deep.DeepCutAuto
import Derived.Deep.CutBlock
import Derived.Deep.RegionHeld3
import Derived.Laws.Rows
import Derived.Lib.AppendStr
import Derived.ArgAppend
import Derived.Laws.IdiomCopy
import Derived.OrdersHeld
import Derived.Laws.BitsLemmas
import Derived.RowKit
import Derived.WalkLawsBesides
import Derived.Shelf.Strings.Builder1
import Derived.Shelf.Strings.Builder2
import Derived.Shelf.Strings.OnBuilder
import Derived.Shelf.Small.Bits
import Derived.Shelf.Small.Strs
import Derived.Shelf.Strings.BuilderF
import Derived.Shelf.Strings.BuilderK
import Derived.Shelf.Utf8.RuneCount
import Derived.Shelf.Strings.Builder2Cap
import Derived.Shelf.Strconv.Itoa0
import Derived.Shelf.Strconv.Itoa1
import Derived.Shelf.LaysM
import Derived.Shelf.Strconv.Itoa2
import Derived.Shelf.Strconv.Itoa3
import Derived.Shelf.Strings.Search1
import Derived.Shelf.Strings.Search2
import Derived.Shelf.Strings.Search3
import Derived.Shelf.Strings.Cut
import Derived.Shelf.Strings.Count
import Derived.Shelf.Strings.Shaped
import Derived.Shelf.Sort.Plain
import Derived.Ground.GgsProg
import Derived.Shelf.GgSortFunc.Insertion
import Derived.Shelf.GgSortFunc.Small
import Derived.Shelf.GgSortFunc.InsertionK
import Derived.Shelf.GgSortFunc.SmallK
import Derived.Shelf.GgSortFunc.Tiny
import Derived.Shelf.GgSortFunc.Compose
import Derived.Shelf.GgSortFunc.LotD
import Derived.Shelf.GgSortFunc.Pivot
import Derived.Shelf.GgSortFunc.Partition
import Derived.Shelf.GgSortFunc.Pdq
import Derived.Shelf.GgSortFunc.Whole
import Derived.Shelf.Strings.Prefix
import Derived.Shelf.Strings.Split
import Derived.Shelf.Strings.SplitShaped
import Derived.Shelf.Unicode.Decode
import Derived.Shelf.Strings.RuneCount
import Derived.Shelf.Strings.Explode
import Derived.Shelf.Unicode.DecodeSlow
import Derived.Shelf.Unicode.DecodeAny
import Derived.Shelf.Strings.BuilderCap
import Derived.Shelf.Slices.In.SortNone
import Derived.Shelf.Slices.In.SortNone2
import Derived.Shelf.SlSortFunc.Xorshift
import Derived.Shelf.SlSortFuncK.ComposeK
import Derived.Shelf.SlSortFuncK.SiftDownK
import Derived.Shelf.SlSortFuncK.HeapSortK
import Derived.Shelf.SlSortFuncK.PartialInsertionK
import Derived.Shelf.SlSortFuncK.LotDK
import Derived.Shelf.SlSortFuncK.PivotK
import Derived.Shelf.SlSortFuncK.PartitionK
import Derived.Shelf.SlSortFunc.SiftDown
import Derived.Shelf.SlSortFunc.HeapSort
import Derived.Shelf.SlSortFunc.PartialInsertion
import Derived.Shelf.SlSortFuncK.PdqK
import Derived.Shelf.SlSortFuncK.WholeK
import Derived.Laws.StructEq
import Derived.Test.YthdoohfdminfgaaGreatDoorNK0
import Derived.Test.YthdoohfdminfgaaGreatDoorNK1
import Derived.Test.YthdoohfdminfgaaGreatDoorNK2
import Derived.Test.YthdoohfdminfgaaGreatDoorNK9
import Derived.Test.YthdoohfdminfgaaGreatDoorNKc
namespace Go.Proofs.YthdoohfdminfgaaGreatDoorW.PrintLast
end Go.Proofs.YthdoohfdminfgaaGreatDoorW.PrintLast
namespace Go.Proofs.YthdoohfdminfgaaGreatDoorW.PrintMore
end Go.Proofs.YthdoohfdminfgaaGreatDoorW.PrintMore
namespace Go.Proofs.YthdoohfdminfgaaGreatDoorW.PrintWords
end Go.Proofs.YthdoohfdminfgaaGreatDoorW.PrintWords
section
namespace Go.Proofs.YthdoohfdminfgaaGreatDoor.C
open Go.RowKit Go.Proofs.YthdoohfdminfgaaGreatDoorW.PrintWords Go.Proofs.YthdoohfdminfgaaGreatDoorW.PrintLast Go.Proofs.YthdoohfdminfgaaGreatDoorW.PrintMore
attribute [local go_sem] xa z7 xq xr zx zy xc z8
set_option linter.unusedVariables false
set_option linter.unusedSimpArgs false
def ke.f (a0 : Int) : Option (Bool) := if a0 ≥ 65 then (if a0 ≤ 90 then (some true) else (if a0 ≥ 97 then (if a0 ≤ 122 then (some true) else (if a0 ≥ 48 then (some (decide (a0 ≤ 57))) else (some false))) else (if a0 ≥ 48 then (some (decide (a0 ≤ 57))) else (some false)))) else (if a0 ≥ 97 then (if a0 ≤ 122 then (some true) else (if a0 ≥ 48 then (some (decide (a0 ≤ 57))) else (some false))) else (if a0 ≥ 48 then (some (decide (a0 ≤ 57))) else (some false)))
set_option maxHeartbeats 8000000 in
set_option maxRecDepth 100000 in
theorem ke.calls (a0 : Int) (r : Bool) (w : World) (h : ke.f a0 = some r) :
  Calls Tryz.prog 110 #[.int .u8 a0] w fun e w' => e = .returned (.bool r) ∧ qx w w' := by
 have H : (if a0 ≥ 65 then (if a0 ≤ 90 then (some true) else (if a0 ≥ 97 then (if a0 ≤ 122 then (some true) else (if a0 ≥ 48 then (some (decide (a0 ≤ 57))) else (some false))) else (if a0 ≥ 48 then (some (decide (a0 ≤ 57))) else (some false)))) else (if a0 ≥ 97 then (if a0 ≤ 122 then (some true) else (if a0 ≥ 48 then (some (decide (a0 ≤ 57))) else (some false))) else (if a0 ≥ 48 then (some (decide (a0 ≤ 57))) else (some false)))) = some r := h
 clear h
 by_cases c2 : a0 ≥ 65
 ·rw [if_pos c2] at H
  have c2b0 : decide (65 ≤ a0) = true := decide_eq_true c2
  clear c2
  by_cases c3 : a0 ≤ 90
  ·rw [if_pos c3] at H
   have c3b0 : decide (a0 ≤ 90) = true := decide_eq_true c3
   clear c3
   obtain rfl := Option.some.inj H
   go_enter Tryz.func110, Tryz.ntmps110
   go_wp2
   go_ret
   exact ⟨by first | rfl | (simp; done) | (simp [*]; done), by repeat (first | exact qx.refl _ | apply qx.step)⟩
  ·rw [if_neg c3] at H
   have c3b0 : decide (a0 ≤ 90) = false := decide_eq_false c3
   clear c3
   by_cases c4 : a0 ≥ 97
   ·rw [if_pos c4] at H
    have c4b0 : decide (97 ≤ a0) = true := decide_eq_true c4
    clear c4
    by_cases c5 : a0 ≤ 122
    ·rw [if_pos c5] at H
     have c5b0 : decide (a0 ≤ 122) = true := decide_eq_true c5
     clear c5
     obtain rfl := Option.some.inj H
     go_enter Tryz.func110, Tryz.ntmps110
     go_wp2
     go_ret
     exact ⟨by first | rfl | (simp; done) | (simp [*]; done), by repeat (first | exact qx.refl _ | apply qx.step)⟩
    ·rw [if_neg c5] at H
     have c5b0 : decide (a0 ≤ 122) = false := decide_eq_false c5
     clear c5
     by_cases c6 : a0 ≥ 48
     ·rw [if_pos c6] at H
      have c6b0 : decide (48 ≤ a0) = true := decide_eq_true c6
      clear c6
      obtain rfl := Option.some.inj H
      go_enter Tryz.func110, Tryz.ntmps110
      go_wp2
      go_ret
      exact ⟨by first | rfl | (simp; done) | (simp [*]; done), by repeat (first | exact qx.refl _ | apply qx.step)⟩
     ·rw [if_neg c6] at H
      have c6b0 : decide (48 ≤ a0) = false := decide_eq_false c6
      clear c6
      obtain rfl := Option.some.inj H
      go_enter Tryz.func110, Tryz.ntmps110
      go_wp2
      go_ret
      exact ⟨by first | rfl | (simp; done) | (simp [*]; done), by repeat (first | exact qx.refl _ | apply qx.step)⟩
   ·rw [if_neg c4] at H
    have c4b0 : decide (97 ≤ a0) = false := decide_eq_false c4
    clear c4
    by_cases c7 : a0 ≥ 48
    ·rw [if_pos c7] at H
     have c7b0 : decide (48 ≤ a0) = true := decide_eq_true c7
     clear c7
     obtain rfl := Option.some.inj H
     go_enter Tryz.func110, Tryz.ntmps110
     go_wp2
     go_ret
     exact ⟨by first | rfl | (simp; done) | (simp [*]; done), by repeat (first | exact qx.refl _ | apply qx.step)⟩
    ·rw [if_neg c7] at H
     have c7b0 : decide (48 ≤ a0) = false := decide_eq_false c7
     clear c7
     obtain rfl := Option.some.inj H
     go_enter Tryz.func110, Tryz.ntmps110
     go_wp2
     go_ret
     exact ⟨by first | rfl | (simp; done) | (simp [*]; done), by repeat (first | exact qx.refl _ | apply qx.step)⟩
 ·rw [if_neg c2] at H
  have c2b0 : decide (65 ≤ a0) = false := decide_eq_false c2
  clear c2
  by_cases c8 : a0 ≥ 97
  ·rw [if_pos c8] at H
   have c8b0 : decide (97 ≤ a0) = true := decide_eq_true c8
   clear c8
   by_cases c9 : a0 ≤ 122
   ·rw [if_pos c9] at H
    have c9b0 : decide (a0 ≤ 122) = true := decide_eq_true c9
    clear c9
    obtain rfl := Option.some.inj H
    go_enter Tryz.func110, Tryz.ntmps110
    go_wp2
    go_ret
    exact ⟨by first | rfl | (simp; done) | (simp [*]; done), by repeat (first | exact qx.refl _ | apply qx.step)⟩
   ·rw [if_neg c9] at H
    have c9b0 : decide (a0 ≤ 122) = false := decide_eq_false c9
    clear c9
    by_cases c10 : a0 ≥ 48
    ·rw [if_pos c10] at H
     have c10b0 : decide (48 ≤ a0) = true := decide_eq_true c10
     clear c10
     obtain rfl := Option.some.inj H
     go_enter Tryz.func110, Tryz.ntmps110
     go_wp2
     go_ret
     exact ⟨by first | rfl | (simp; done) | (simp [*]; done), by repeat (first | exact qx.refl _ | apply qx.step)⟩
    ·rw [if_neg c10] at H
     have c10b0 : decide (48 ≤ a0) = false := decide_eq_false c10
     clear c10
     obtain rfl := Option.some.inj H
     go_enter Tryz.func110, Tryz.ntmps110
     go_wp2
     go_ret
     exact ⟨by first | rfl | (simp; done) | (simp [*]; done), by repeat (first | exact qx.refl _ | apply qx.step)⟩
  ·rw [if_neg c8] at H
   have c8b0 : decide (97 ≤ a0) = false := decide_eq_false c8
   clear c8
   by_cases c11 : a0 ≥ 48
   ·rw [if_pos c11] at H
    have c11b0 : decide (48 ≤ a0) = true := decide_eq_true c11
    clear c11
    obtain rfl := Option.some.inj H
    go_enter Tryz.func110, Tryz.ntmps110
    go_wp2
    go_ret
    exact ⟨by first | rfl | (simp; done) | (simp [*]; done), by repeat (first | exact qx.refl _ | apply qx.step)⟩
   ·rw [if_neg c11] at H
    have c11b0 : decide (48 ≤ a0) = false := decide_eq_false c11
    clear c11
    obtain rfl := Option.some.inj H
    go_enter Tryz.func110, Tryz.ntmps110
    go_wp2
    go_ret
    exact ⟨by first | rfl | (simp; done) | (simp [*]; done), by repeat (first | exact qx.refl _ | apply qx.step)⟩
def zc.l0 : Nat → Int → ByteArray → Int → Option (Bool)
 | 0, _, _, _ => none
 | k + 1, x0, x1, x5 => if x5 < (x1.size : Int) then (if 0 ≤ x5 then (if (bt x1 x5) = x0 then (some true) else (zc.l0 k x0 x1 (wrap64 (x5 + 1)))) else (none)) else (some false)
def zc.f (k : Nat) (a0 : Int) (a1 : ByteArray) : Option (Bool) := zc.l0 k a0 a1 0
theorem zc.xi : ∀ k, (∀ y0 y1 y2, LeO (zc.l0 k y0 y1 y2) (zc.l0 (k + 1) y0 y1 y2))
 | 0 => fun _ _ _ r h => by simp [zc.l0] at h
 | k + 1 => by
  have ih0 := zc.xi k
  ·intro y0 y1 y2
   unfold zc.l0
   repeat' first
   | (with_reducible exact ih0 _ _ _)
   | (with_reducible exact LeO.refl _)
   | (with_reducible exact LeO.none _)
   | (with_reducible refine LeO.ite ?_ ?_)
   | (with_reducible refine LeO.bind ?_ (fun _ => ?_))
theorem zc.mono : ∀ a0 a1 k, LeO (zc.f k a0 a1) (zc.f (k + 1) a0 a1) := by
 intro a0 a1 k
 have ih0 := zc.xi k
 unfold zc.f
 repeat' first
   | (with_reducible exact ih0 _ _ _)
   | (with_reducible exact LeO.refl _)
   | (with_reducible exact LeO.none _)
   | (with_reducible refine LeO.ite ?_ ?_)
   | (with_reducible refine LeO.bind ?_ (fun _ => ?_))
set_option maxHeartbeats 8000000 in
set_option maxRecDepth 100000 in
theorem zc.calls (k : Nat) (a0 : Int) (a1 : ByteArray) (r : Bool) (w : World) (h : zc.f k a0 a1 = some r) :
  Calls Tryz.prog 111 #[.int .u8 a0, .string a1] w fun e w' => e = .returned (.bool r) ∧ qx w w' := by
 have H : (zc.l0 k a0 a1 0) = some r := h
 clear h
 have H' := qa.mk H
 clear H
 go_enter Tryz.func111, Tryz.ntmps111
 go_wp2
 go_loopg [5] k (fun kq v5 w' => ∃ (x5_1 : Int), v5 = .int .i64 x5_1 ∧ qa (zc.l0 kq a0 a1 x5_1 = some r) ∧ qa (kq ≤ k) ∧ qx w w')
 case atStart => exact ⟨(0), yf, H', ⟨Nat.le_refl _⟩, by repeat (first | exact qx.refl _ | apply qx.step)⟩
 case round =>
  clear H'
  (try clear c1); try clear p2
  obtain ⟨x5_1, rfl, HA, HK1, ⟨m1, rfl⟩⟩ := hrel
  cases gk with
  | zero => exact absurd HA.out (by simp [zc.l0])
  | succ k1 =>
   have H := HA.out
   clear HA
   simp only [zc.l0] at H
   by_cases c3 : x5_1 < (a1.size : Int)
   ·rw [if_pos c3] at H
    have c3b0 : decide (x5_1 < (a1.size : Int)) = true := decide_eq_true c3
    clear c3
    by_cases c4 : 0 ≤ x5_1
    ·rw [if_pos c4] at H
     have c4b0 : decide (0 ≤ x5_1) = true := decide_eq_true c4
     clear c4
     by_cases c6 : (bt a1 x5_1) = a0
     ·rw [if_pos c6] at H
      have c6b0 : ((bt a1 x5_1) == a0) = true := beq_iff_eq.mpr c6
      have c6b1 : ((bt a1 x5_1) != a0) = false := bne_eq_false_iff_eq.mpr c6
      clear c6
      obtain rfl := Option.some.inj H
      have p5 : 0 ≤ (x5_1 : Int) := of_decide_eq_true cz
      have q5 : x5_1 < (a1.size : Int) := of_decide_eq_true cz
      have hx5 := km a1 x5_1
      replace p5 := eq_true p5
      replace q5 := eq_true q5
      go_wp2
      go_ret
      exact ⟨by first | rfl | (simp; done) | (simp [*]; done), by repeat (first | exact qx.refl _ | apply qx.step)⟩
     ·rw [if_neg c6] at H
      have c6b0 : ((bt a1 x5_1) == a0) = false := beq_eq_false_iff_ne.mpr c6
      have c6b1 : ((bt a1 x5_1) != a0) = true := bne_iff_ne.mpr c6
      have H' := qa.mk H
      clear H
      have p5 : 0 ≤ (x5_1 : Int) := of_decide_eq_true cz
      have q5 : x5_1 < (a1.size : Int) := of_decide_eq_true cz
      have hx5 := km a1 x5_1
      replace p5 := eq_true p5
      replace q5 := eq_true q5
      go_wp2
      go_roundg k1
      case measure => have := HK1.out; omega
      case rel => exact ⟨(wrap64 (x5_1 + 1)), yf, H', ⟨by have := HK1.out; omega⟩, by repeat (first | exact qx.refl _ | apply qx.step)⟩
    ·rw [if_neg c4] at H
     exact absurd H yt
   ·rw [if_neg c3] at H
    have c3b0 : decide (x5_1 < (a1.size : Int)) = false := decide_eq_false c3
    clear c3
    obtain rfl := Option.some.inj H
    go_wp2
    go_ret
    exact ⟨by first | rfl | (simp; done) | (simp [*]; done), by repeat (first | exact qx.refl _ | apply qx.step)⟩
end Go.Proofs.YthdoohfdminfgaaGreatDoor.C
end
section
namespace Go.Proofs.YthdoohfdminfgaaGreatDoor.C
open Go.RowKit Go.Proofs.YthdoohfdminfgaaGreatDoorW.PrintWords Go.Proofs.YthdoohfdminfgaaGreatDoorW.PrintLast Go.Proofs.YthdoohfdminfgaaGreatDoorW.PrintMore
attribute [local go_sem] xa z7 xq xr zx zy xc z8
set_option linter.unusedVariables false
set_option linter.unusedSimpArgs false
mutual
def qj.j0 : Nat → Int → ByteArray → Bool → Option (Bool)
 | 0, _, _, _ => none
 | k + 1, x0, x1, x11 => if x11 = true then (qj.l0 k x0 x1 0) else (some false)
def qj.l0 : Nat → Int → ByteArray → Int → Option (Bool)
 | 0, _, _, _ => none
 | k + 1, x0, x1, x5 => if x5 < (x1.size : Int) then (if x0 = 22 then (if 0 ≤ x5 then (if (bt x1 x5) < 32 then (qj.j2 k x0 x1 x5 true) else (if (bt x1 x5) > 126 then (qj.j2 k x0 x1 x5 true) else (if x0 = 19 then ((ke.f (bt x1 x5)).bind fun t235 => (if t235 = true then (qj.j2 k x0 x1 x5 false) else ((zc.f k (bt x1 x5) (⟨#[32, 39, 40, 41, 43, 44, 45, 46, 47, 58, 61, 63]⟩ : ByteArray)).bind fun t236 => (qj.j2 k x0 x1 x5 (!t236))))) else (qj.j2 k x0 x1 x5 false)))) else (none)) else (if x0 = 19 then (if 0 ≤ x5 then ((ke.f (bt x1 x5)).bind fun t237 => (if t237 = true then (qj.j2 k x0 x1 x5 false) else ((zc.f k (bt x1 x5) (⟨#[32, 39, 40, 41, 43, 44, 45, 46, 47, 58, 61, 63]⟩ : ByteArray)).bind fun t238 => (qj.j2 k x0 x1 x5 (!t238))))) else (none)) else (qj.j2 k x0 x1 x5 false))) else (some true)
def qj.j2 : Nat → Int → ByteArray → Int → Bool → Option (Bool)
 | 0, _, _, _, _ => none
 | k + 1, x0, x1, x5, x51 => if x51 = true then (some false) else (qj.l0 k x0 x1 (wrap64 (x5 + 1)))
end
def qj.f (k : Nat) (a0 : Int) (a1 : ByteArray) : Option (Bool) := if a0 = 12 then ((qh.f k a1).bind fun t234 => (some t234)) else (if a0 = 19 then (qj.j0 k a0 a1 (a0 == 19)) else (qj.j0 k a0 a1 (a0 == 22)))
theorem qj.xi : ∀ k, (∀ y0 y1 y2, LeO (qj.j0 k y0 y1 y2) (qj.j0 (k + 1) y0 y1 y2)) ∧ (∀ y0 y1 y2, LeO (qj.l0 k y0 y1 y2) (qj.l0 (k + 1) y0 y1 y2)) ∧ (∀ y0 y1 y2 y3, LeO (qj.j2 k y0 y1 y2 y3) (qj.j2 (k + 1) y0 y1 y2 y3))
 | 0 => ⟨fun _ _ _ r h => by simp [qj.j0] at h, fun _ _ _ r h => by simp [qj.l0] at h, fun _ _ _ _ r h => by simp [qj.j2] at h⟩
 | k + 1 => by
  obtain ⟨ih0, ih1, ih2⟩ := qj.xi k
  refine ⟨?_, ?_, ?_⟩
  ·intro y0 y1 y2
   unfold qj.j0
   repeat' first
   | (with_reducible exact ih0 _ _ _)
   | (with_reducible exact ih1 _ _ _)
   | (with_reducible exact ih2 _ _ _ _)
   | (with_reducible exact zc.mono _ _ _)
   | (with_reducible exact qh.mono _ _)
   | (with_reducible exact LeO.refl _)
   | (with_reducible exact LeO.none _)
   | (with_reducible refine LeO.ite ?_ ?_)
   | (with_reducible refine LeO.bind ?_ (fun _ => ?_))
  ·intro y0 y1 y2
   unfold qj.l0
   repeat' first
   | (with_reducible exact ih0 _ _ _)
   | (with_reducible exact ih1 _ _ _)
   | (with_reducible exact ih2 _ _ _ _)
   | (with_reducible exact zc.mono _ _ _)
   | (with_reducible exact qh.mono _ _)
   | (with_reducible exact LeO.refl _)
   | (with_reducible exact LeO.none _)
   | (with_reducible refine LeO.ite ?_ ?_)
   | (with_reducible refine LeO.bind ?_ (fun _ => ?_))
  ·intro y0 y1 y2 y3
   unfold qj.j2
   repeat' first
   | (with_reducible exact ih0 _ _ _)
   | (with_reducible exact ih1 _ _ _)
   | (with_reducible exact ih2 _ _ _ _)
   | (with_reducible exact zc.mono _ _ _)
   | (with_reducible exact qh.mono _ _)
   | (with_reducible exact LeO.refl _)
   | (with_reducible exact LeO.none _)
   | (with_reducible refine LeO.ite ?_ ?_)
   | (with_reducible refine LeO.bind ?_ (fun _ => ?_))
theorem qj.mono : ∀ a0 a1 k, LeO (qj.f k a0 a1) (qj.f (k + 1) a0 a1) := by
 intro a0 a1 k
 obtain ⟨ih0, ih1, ih2⟩ := qj.xi k
 unfold qj.f
 repeat' first
   | (with_reducible exact ih0 _ _ _)
   | (with_reducible exact ih1 _ _ _)
   | (with_reducible exact ih2 _ _ _ _)
   | (with_reducible exact zc.mono _ _ _)
   | (with_reducible exact qh.mono _ _)
   | (with_reducible exact LeO.refl _)
   | (with_reducible exact LeO.none _)
   | (with_reducible refine LeO.ite ?_ ?_)
   | (with_reducible refine LeO.bind ?_ (fun _ => ?_))
set_option maxHeartbeats 8000000 in
set_option maxRecDepth 100000 in
theorem qj.calls (k : Nat) (a0 : Int) (a1 : ByteArray) (r : Bool) (w : World) (h : qj.f k a0 a1 = some r) :
  Calls Tryz.prog 77 #[.int .i64 a0, .string a1] w fun e w' => e = .returned (.bool r) ∧ qx w w' := by
 have H : (if a0 = 12 then ((qh.f k a1).bind fun t234 => (some t234)) else (if a0 = 19 then (qj.j0 k a0 a1 (a0 == 19)) else (qj.j0 k a0 a1 (a0 == 22)))) = some r := h
 clear h
 by_cases c3 : a0 = 12
 ·rw [if_pos c3] at H
  have c3b0 : (a0 == 12) = true := beq_iff_eq.mpr c3
  have c3b1 : (a0 != 12) = false := bne_eq_false_iff_eq.mpr c3
  clear c3
  replace H := Option.bind_eq_some_iff.mp H
  obtain ⟨t234, A40, H⟩ := H
  replace H : (some t234) = some r := H
  have A4 := qa.mk A40
  clear A40
  obtain rfl := Option.some.inj H
  go_enter Tryz.func77, Tryz.ntmps77
  go_wp2_with (first | ((with_reducible refine zn (f := 109) rfl ?_); refine kd (some 10) rfl rfl Tryz.func109 yj rfl #[.string a1] rfl yc ?_; (with_reducible refine (qh.calls k a1 t234 _ A4.out).mono ?_); rintro e w' ⟨rfl, ⟨nd, rfl⟩⟩; refine ⟨_, rfl, ?_⟩))
  go_ret
  exact ⟨by first | rfl | (simp; done) | (simp [*]; done), by repeat (first | exact qx.refl _ | apply qx.step)⟩
 ·rw [if_neg c3] at H
  have c3b0 : (a0 == 12) = false := beq_eq_false_iff_ne.mpr c3
  have c3b1 : (a0 != 12) = true := bne_iff_ne.mpr c3
  have HC5 := qa.mk H
  clear H
  go_enter Tryz.func77, Tryz.ntmps77
  go_upto_if 11 with (fail)
  go_cut [11] (fun v11 wc => ∃ (kq : Nat) (x11_4 : Bool), v11 = .bool x11_4 ∧ qa (qj.j0 kq a0 a1 x11_4 = some r) ∧ qa (kq ≤ k) ∧ qx w wc)
  case first =>
   have H := HC5.out
   clear HC5
   by_cases c6 : a0 = 19
   ·rw [if_pos c6] at H
    have c6b0 : (a0 == 19) = true := beq_iff_eq.mpr c6
    have c6b1 : (a0 != 19) = false := bne_eq_false_iff_eq.mpr c6
    clear c6
    (first | rw [c6b0] | (simp only [zm, zq]; rw [c6b0]) | skip)
    have H' := qa.mk H
    clear H
    go_wp2
    go_meet
    case rel => exact ⟨_, ((a0 == 19)), yf, H', ⟨by first | omega | exact Nat.le_refl _⟩, by repeat (first | exact qx.refl _ | apply qx.step)⟩
   ·rw [if_neg c6] at H
    have c6b0 : (a0 == 19) = false := beq_eq_false_iff_ne.mpr c6
    have c6b1 : (a0 != 19) = true := bne_iff_ne.mpr c6
    (first | rw [c6b0] | (simp only [zm, zq]; rw [c6b0]) | skip)
    have H' := qa.mk H
    clear H
    go_wp2
    go_meet
    case rel => exact ⟨_, ((a0 == 22)), yf, H', ⟨by first | omega | exact Nat.le_refl _⟩, by repeat (first | exact qx.refl _ | apply qx.step)⟩
  case rest =>
   clear HC5
   (try clear c1); (try clear p2); (try clear c3); (try clear c3b0); (try clear c3b1); (try clear c6); (try clear c6b0); try clear c6b1
   obtain ⟨kq, x11_4, rfl, HA, HJ4, ⟨mc4, rfl⟩⟩ := hcut
   cases kq with
   | zero => exact absurd HA.out (by simp [qj.j0])
   | succ kj4 =>
    have H := HA.out
    clear HA
    simp only [qj.j0] at H
    by_cases c7 : x11_4 = true
    ·subst c7
     have H1 : (qj.l0 kj4 a0 a1 0) = some r := by rw [if_pos rfl] at H; exact H
     clear H
     have H := H1
     clear H1
     have H' := qa.mk H
     clear H
     go_wp2
     go_loopg [5] kj4 (fun kq v5 w' => ∃ (x5_2 : Int), v5 = .int .i64 x5_2 ∧ qa (qj.l0 kq a0 a1 x5_2 = some r) ∧ qa (kq ≤ kj4) ∧ qx w w')
     case atStart => exact ⟨(0), yf, H', ⟨Nat.le_refl _⟩, by repeat (first | exact qx.refl _ | apply qx.step)⟩
     case round =>
      clear H'
      (try clear c1); (try clear p2); (try clear c3); (try clear c3b0); (try clear c3b1); (try clear c4); (try clear c6); (try clear c6b0); (try clear c6b1); (try clear c7); try clear p2
      obtain ⟨x5_2, rfl, HA, HK2, ⟨m2, rfl⟩⟩ := hrel
      cases gk with
      | zero => exact absurd HA.out (by simp [qj.l0])
      | succ k2 =>
       have H := HA.out
       clear HA
       simp only [qj.l0] at H
       by_cases c8 : x5_2 < (a1.size : Int)
       ·rw [if_pos c8] at H
        have c8b0 : decide (x5_2 < (a1.size : Int)) = true := decide_eq_true c8
        clear c8
        have HC9 := qa.mk H
        clear H
        go_upto_region 9 with (fail)
        go_cut [51] (fun v51 wc => ∃ (kq : Nat) (x51_8 : Bool), v51 = .bool x51_8 ∧ qa (qj.j2 kq a0 a1 x5_2 x51_8 = some r) ∧ qa (kq ≤ k2) ∧ qx w wc)
        case first =>
         have H := HC9.out
         clear HC9
         by_cases c10 : a0 = 22
         ·rw [if_pos c10] at H
          have c10b0 : (a0 == 22) = true := beq_iff_eq.mpr c10
          have c10b1 : (a0 != 22) = false := bne_eq_false_iff_eq.mpr c10
          clear c10
          (first | rw [c10b0] | (simp only [zm, zq]; rw [c10b0]) | skip)
          by_cases c11 : 0 ≤ x5_2
          ·rw [if_pos c11] at H
           have c11b0 : decide (0 ≤ x5_2) = true := decide_eq_true c11
           clear c11
           by_cases c13 : (bt a1 x5_2) < 32
           ·rw [if_pos c13] at H
            have c13b0 : decide ((bt a1 x5_2) < 32) = true := decide_eq_true c13
            clear c13
            have H' := qa.mk H
            clear H
            have p12 : 0 ≤ (x5_2 : Int) := of_decide_eq_true cz
            have q12 : x5_2 < (a1.size : Int) := of_decide_eq_true cz
            have hx12 := km a1 x5_2
            replace p12 := eq_true p12
            replace q12 := eq_true q12
            go_wp2
            go_meet
            case rel => exact ⟨_, (true), yf, H', ⟨by have := HJ4.out; have := HK2.out; first | omega | exact Nat.le_refl _⟩, by repeat (first | exact qx.refl _ | apply qx.step)⟩
           ·rw [if_neg c13] at H
            have c13b0 : decide ((bt a1 x5_2) < 32) = false := decide_eq_false c13
            clear c13
            by_cases c15 : (bt a1 x5_2) > 126
            ·rw [if_pos c15] at H
             have c15b0 : decide (126 < (bt a1 x5_2)) = true := decide_eq_true c15
             clear c15
             have H' := qa.mk H
             clear H
             have p12 : 0 ≤ (x5_2 : Int) := of_decide_eq_true cz
             have q12 : x5_2 < (a1.size : Int) := of_decide_eq_true cz
             have hx12 := km a1 x5_2
             replace p12 := eq_true p12
             replace q12 := eq_true q12
             have p14 : 0 ≤ (x5_2 : Int) := of_decide_eq_true cz
             have q14 : x5_2 < (a1.size : Int) := of_decide_eq_true cz
             have hx14 := km a1 x5_2
             replace p14 := eq_true p14
             replace q14 := eq_true q14
             go_wp2
             go_meet
             case rel => exact ⟨_, (true), yf, H', ⟨by have := HJ4.out; have := HK2.out; first | omega | exact Nat.le_refl _⟩, by repeat (first | exact qx.refl _ | apply qx.step)⟩
            ·rw [if_neg c15] at H
             have c15b0 : decide (126 < (bt a1 x5_2)) = false := decide_eq_false c15
             clear c15
             by_cases c16 : a0 = 19
             ·rw [if_pos c16] at H
              have c16b0 : (a0 == 19) = true := beq_iff_eq.mpr c16
              have c16b1 : (a0 != 19) = false := bne_eq_false_iff_eq.mpr c16
              clear c16
              replace H := Option.bind_eq_some_iff.mp H
              obtain ⟨t235, A180, H⟩ := H
              replace H : (if t235 = true then (qj.j2 k2 a0 a1 x5_2 false) else ((zc.f k2 (bt a1 x5_2) (⟨#[32, 39, 40, 41, 43, 44, 45, 46, 47, 58, 61, 63]⟩ : ByteArray)).bind fun t236 => (qj.j2 k2 a0 a1 x5_2 (!t236)))) = some r := H
              have A18 := qa.mk A180
              clear A180
              by_cases c19 : t235 = true
              ·subst c19
               have H1 : (qj.j2 k2 a0 a1 x5_2 false) = some r := by rw [if_pos rfl] at H; exact H
               clear H
               have H := H1
               clear H1
               have H' := qa.mk H
               clear H
               have p12 : 0 ≤ (x5_2 : Int) := of_decide_eq_true cz
               have q12 : x5_2 < (a1.size : Int) := of_decide_eq_true cz
               have hx12 := km a1 x5_2
               replace p12 := eq_true p12
               replace q12 := eq_true q12
               have p14 : 0 ≤ (x5_2 : Int) := of_decide_eq_true cz
               have q14 : x5_2 < (a1.size : Int) := of_decide_eq_true cz
               have hx14 := km a1 x5_2
               replace p14 := eq_true p14
               replace q14 := eq_true q14
               have p17 : 0 ≤ (x5_2 : Int) := of_decide_eq_true cz
               have q17 : x5_2 < (a1.size : Int) := of_decide_eq_true cz
               have hx17 := km a1 x5_2
               replace p17 := eq_true p17
               replace q17 := eq_true q17
               go_wp2_with (first | (go_at_call 110; (with_reducible refine (ke.calls (bt a1 x5_2) true _ A18.out).mono ?_); rintro e w' ⟨rfl, ⟨nd, rfl⟩⟩))
               go_meet
               case rel => exact ⟨_, (false), yf, H', ⟨by have := HJ4.out; have := HK2.out; first | omega | exact Nat.le_refl _⟩, by repeat (first | exact qx.refl _ | apply qx.step)⟩
              ·replace c19 := Bool.eq_false_iff.mpr c19
               subst c19
               have H1 : ((zc.f k2 (bt a1 x5_2) (⟨#[32, 39, 40, 41, 43, 44, 45, 46, 47, 58, 61, 63]⟩ : ByteArray)).bind fun t236 => (qj.j2 k2 a0 a1 x5_2 (!t236))) = some r := by rw [if_neg (show ¬ (false = true) by decide)] at H; exact H
               clear H
               have H := H1
               clear H1
               replace H := Option.bind_eq_some_iff.mp H
               obtain ⟨t236, A210, H⟩ := H
               replace H : (qj.j2 k2 a0 a1 x5_2 (!t236)) = some r := H
               have A21 := qa.mk A210
               clear A210
               have H' := qa.mk H
               clear H
               have p12 : 0 ≤ (x5_2 : Int) := of_decide_eq_true cz
               have q12 : x5_2 < (a1.size : Int) := of_decide_eq_true cz
               have hx12 := km a1 x5_2
               replace p12 := eq_true p12
               replace q12 := eq_true q12
               have p14 : 0 ≤ (x5_2 : Int) := of_decide_eq_true cz
               have q14 : x5_2 < (a1.size : Int) := of_decide_eq_true cz
               have hx14 := km a1 x5_2
               replace p14 := eq_true p14
               replace q14 := eq_true q14
               have p17 : 0 ≤ (x5_2 : Int) := of_decide_eq_true cz
               have q17 : x5_2 < (a1.size : Int) := of_decide_eq_true cz
               have hx17 := km a1 x5_2
               replace p17 := eq_true p17
               replace q17 := eq_true q17
               go_wp2_with (first | (go_at_call 110; (with_reducible refine (ke.calls (bt a1 x5_2) false _ A18.out).mono ?_); rintro e w' ⟨rfl, ⟨nd, rfl⟩⟩; have p20 : 0 ≤ (x5_2 : Int) := of_decide_eq_true cz; have q20 : x5_2 < (a1.size : Int) := of_decide_eq_true cz; have hx20 := km a1 x5_2; replace p20 := eq_true p20; replace q20 := eq_true q20) | (go_at_call 111; (with_reducible refine (zc.calls k2 (bt a1 x5_2) (⟨#[32, 39, 40, 41, 43, 44, 45, 46, 47, 58, 61, 63]⟩ : ByteArray) t236 _ A21.out).mono ?_); rintro e w' ⟨rfl, ⟨nd, rfl⟩⟩))
               go_meet
               case rel => exact ⟨_, (!t236), yf, H', ⟨by have := HJ4.out; have := HK2.out; first | omega | exact Nat.le_refl _⟩, by repeat (first | exact qx.refl _ | apply qx.step)⟩
             ·rw [if_neg c16] at H
              have c16b0 : (a0 == 19) = false := beq_eq_false_iff_ne.mpr c16
              have c16b1 : (a0 != 19) = true := bne_iff_ne.mpr c16
              have H' := qa.mk H
              clear H
              have p12 : 0 ≤ (x5_2 : Int) := of_decide_eq_true cz
              have q12 : x5_2 < (a1.size : Int) := of_decide_eq_true cz
              have hx12 := km a1 x5_2
              replace p12 := eq_true p12
              replace q12 := eq_true q12
              have p14 : 0 ≤ (x5_2 : Int) := of_decide_eq_true cz
              have q14 : x5_2 < (a1.size : Int) := of_decide_eq_true cz
              have hx14 := km a1 x5_2
              replace p14 := eq_true p14
              replace q14 := eq_true q14
              go_wp2
              go_meet
              case rel => exact ⟨_, (false), yf, H', ⟨by have := HJ4.out; have := HK2.out; first | omega | exact Nat.le_refl _⟩, by repeat (first | exact qx.refl _ | apply qx.step)⟩
          ·rw [if_neg c11] at H
           exact absurd H yt
         ·rw [if_neg c10] at H
          have c10b0 : (a0 == 22) = false := beq_eq_false_iff_ne.mpr c10
          have c10b1 : (a0 != 22) = true := bne_iff_ne.mpr c10
          (first | rw [c10b0] | (simp only [zm, zq]; rw [c10b0]) | skip)
          by_cases c22 : a0 = 19
          ·rw [if_pos c22] at H
           have c22b0 : (a0 == 19) = true := beq_iff_eq.mpr c22
           have c22b1 : (a0 != 19) = false := bne_eq_false_iff_eq.mpr c22
           clear c22
           by_cases c23 : 0 ≤ x5_2
           ·rw [if_pos c23] at H
            have c23b0 : decide (0 ≤ x5_2) = true := decide_eq_true c23
            clear c23
            replace H := Option.bind_eq_some_iff.mp H
            obtain ⟨t237, A250, H⟩ := H
            replace H : (if t237 = true then (qj.j2 k2 a0 a1 x5_2 false) else ((zc.f k2 (bt a1 x5_2) (⟨#[32, 39, 40, 41, 43, 44, 45, 46, 47, 58, 61, 63]⟩ : ByteArray)).bind fun t238 => (qj.j2 k2 a0 a1 x5_2 (!t238)))) = some r := H
            have A25 := qa.mk A250
            clear A250
            by_cases c26 : t237 = true
            ·subst c26
             have H1 : (qj.j2 k2 a0 a1 x5_2 false) = some r := by rw [if_pos rfl] at H; exact H
             clear H
             have H := H1
             clear H1
             have H' := qa.mk H
             clear H
             have p24 : 0 ≤ (x5_2 : Int) := of_decide_eq_true cz
             have q24 : x5_2 < (a1.size : Int) := of_decide_eq_true cz
             have hx24 := km a1 x5_2
             replace p24 := eq_true p24
             replace q24 := eq_true q24
             go_wp2_with (first | (go_at_call 110; (with_reducible refine (ke.calls (bt a1 x5_2) true _ A25.out).mono ?_); rintro e w' ⟨rfl, ⟨nd, rfl⟩⟩))
             go_meet
             case rel => exact ⟨_, (false), yf, H', ⟨by have := HJ4.out; have := HK2.out; first | omega | exact Nat.le_refl _⟩, by repeat (first | exact qx.refl _ | apply qx.step)⟩
            ·replace c26 := Bool.eq_false_iff.mpr c26
             subst c26
             have H1 : ((zc.f k2 (bt a1 x5_2) (⟨#[32, 39, 40, 41, 43, 44, 45, 46, 47, 58, 61, 63]⟩ : ByteArray)).bind fun t238 => (qj.j2 k2 a0 a1 x5_2 (!t238))) = some r := by rw [if_neg (show ¬ (false = true) by decide)] at H; exact H
             clear H
             have H := H1
             clear H1
             replace H := Option.bind_eq_some_iff.mp H
             obtain ⟨t238, A280, H⟩ := H
             replace H : (qj.j2 k2 a0 a1 x5_2 (!t238)) = some r := H
             have A28 := qa.mk A280
             clear A280
             have H' := qa.mk H
             clear H
             have p24 : 0 ≤ (x5_2 : Int) := of_decide_eq_true cz
             have q24 : x5_2 < (a1.size : Int) := of_decide_eq_true cz
             have hx24 := km a1 x5_2
             replace p24 := eq_true p24
             replace q24 := eq_true q24
             go_wp2_with (first | (go_at_call 110; (with_reducible refine (ke.calls (bt a1 x5_2) false _ A25.out).mono ?_); rintro e w' ⟨rfl, ⟨nd, rfl⟩⟩; have p27 : 0 ≤ (x5_2 : Int) := of_decide_eq_true cz; have q27 : x5_2 < (a1.size : Int) := of_decide_eq_true cz; have hx27 := km a1 x5_2; replace p27 := eq_true p27; replace q27 := eq_true q27) | (go_at_call 111; (with_reducible refine (zc.calls k2 (bt a1 x5_2) (⟨#[32, 39, 40, 41, 43, 44, 45, 46, 47, 58, 61, 63]⟩ : ByteArray) t238 _ A28.out).mono ?_); rintro e w' ⟨rfl, ⟨nd, rfl⟩⟩))
             go_meet
             case rel => exact ⟨_, (!t238), yf, H', ⟨by have := HJ4.out; have := HK2.out; first | omega | exact Nat.le_refl _⟩, by repeat (first | exact qx.refl _ | apply qx.step)⟩
           ·rw [if_neg c23] at H
            exact absurd H yt
          ·rw [if_neg c22] at H
           have c22b0 : (a0 == 19) = false := beq_eq_false_iff_ne.mpr c22
           have c22b1 : (a0 != 19) = true := bne_iff_ne.mpr c22
           have H' := qa.mk H
           clear H
           go_wp2
           go_meet
           case rel => exact ⟨_, (false), yf, H', ⟨by have := HJ4.out; have := HK2.out; first | omega | exact Nat.le_refl _⟩, by repeat (first | exact qx.refl _ | apply qx.step)⟩
        case rest =>
         clear HC9
         (try clear c1); (try clear p1); (try clear q1); (try clear hx1); (try clear c2); (try clear p2); (try clear q2); (try clear hx2); (try clear c3); (try clear c3b0); (try clear c3b1); try clear c4
         (try clear c6); (try clear c6b0); (try clear c6b1); (try clear c7); (try clear c8); (try clear c8b0); (try clear c10); (try clear c10b0); (try clear c10b1); (try clear c11); try clear c11b0
         (try clear p12); (try clear q12); (try clear hx12); (try clear c13); (try clear c13b0); (try clear p14); (try clear q14); (try clear hx14); (try clear c15); (try clear c15b0); try clear c16
         (try clear c16b0); (try clear c16b1); (try clear p17); (try clear q17); (try clear hx17); (try clear c19); (try clear p20); (try clear q20); (try clear hx20); (try clear c22); try clear c22b0
         (try clear c22b1); (try clear c23); (try clear c23b0); (try clear p24); (try clear q24); (try clear hx24); (try clear c26); (try clear p27); (try clear q27); (try clear hx27); try clear p12
         (try clear p14); (try clear p17); (try clear p2); (try clear p20); (try clear p24); (try clear p27); (try clear q12); (try clear q14); (try clear q17); (try clear q20); try clear q24
         try clear q27
         obtain ⟨kq, x51_8, rfl, HA, HJ8, ⟨mc8, rfl⟩⟩ := hcut
         cases kq with
         | zero => exact absurd HA.out (by simp [qj.j2])
         | succ kj8 =>
          have H := HA.out
          clear HA
          simp only [qj.j2] at H
          by_cases c29 : x51_8 = true
          ·subst c29
           have H1 : (some false) = some r := by rw [if_pos rfl] at H; exact H
           clear H
           have H := H1
           clear H1
           obtain rfl := Option.some.inj H
           go_wp2
           go_ret
           exact ⟨by first | rfl | (simp; done) | (simp [*]; done), by repeat (first | exact qx.refl _ | apply qx.step)⟩
          ·replace c29 := Bool.eq_false_iff.mpr c29
           subst c29
           have H1 : (qj.l0 kj8 a0 a1 (wrap64 (x5_2 + 1))) = some r := by rw [if_neg (show ¬ (false = true) by decide)] at H; exact H
           clear H
           have H := H1
           clear H1
           have H' := qa.mk H
           clear H
           go_wp2
           go_roundg kj8
           case measure => have := HJ4.out; have := HK2.out; have := HJ8.out; omega
           case rel => exact ⟨(wrap64 (x5_2 + 1)), yf, H', ⟨by have := HJ4.out; have := HK2.out; have := HJ8.out; omega⟩, by repeat (first | exact qx.refl _ | apply qx.step)⟩
       ·rw [if_neg c8] at H
        have c8b0 : decide (x5_2 < (a1.size : Int)) = false := decide_eq_false c8
        clear c8
        obtain rfl := Option.some.inj H
        go_wp2
        go_ret
        exact ⟨by first | rfl | (simp; done) | (simp [*]; done), by repeat (first | exact qx.refl _ | apply qx.step)⟩
    ·replace c7 := Bool.eq_false_iff.mpr c7
     subst c7
     have H1 : (some false) = some r := by rw [if_neg (show ¬ (false = true) by decide)] at H; exact H
     clear H
     have H := H1
     clear H1
     obtain rfl := Option.some.inj H
     go_wp2
     go_ret
     exact ⟨by first | rfl | (simp; done) | (simp [*]; done), by repeat (first | exact qx.refl _ | apply qx.step)⟩
end Go.Proofs.YthdoohfdminfgaaGreatDoor.C
end
section
namespace Go.Proofs.YthdoohfdminfgaaGreatDoor.C
open Go.RowKit Go.Proofs.YthdoohfdminfgaaGreatDoorW.PrintWords Go.Proofs.YthdoohfdminfgaaGreatDoorW.PrintLast Go.Proofs.YthdoohfdminfgaaGreatDoorW.PrintMore
attribute [local go_sem] xa z7 xq xr zx zy xc z8
set_option linter.unusedVariables false
set_option linter.unusedSimpArgs false
mutual
def qk.l0 : Nat → List (S40) → List (S40) → Int → Int → Option (Int)
 | 0, _, _, _, _ => none
 | k + 1, x0, x6, x7, x8 => if x8 < x7 then (if 0 ≤ x8 then (if x8 < (x6.length : Int) then ((zj.f k ((qn x6 x8).f0)).bind fun t241 => (if t241 = true then (if (((qn x6 x8).f2).size : Int) = 0 then (qk.j1 k x0 x8 x6 x7 x8 true ((qn x6 x8).f0) ((qn x6 x8).f1) ((qn x6 x8).f2)) else ((qj.f k ((qn x6 x8).f1) ((qn x6 x8).f2)).bind fun t242 => (qk.j1 k x0 x8 x6 x7 x8 (!t242) ((qn x6 x8).f0) ((qn x6 x8).f1) ((qn x6 x8).f2)))) else (some 11))) else (none)) else (none)) else (some 0)
def qk.j1 : Nat → List (S40) → Int → List (S40) → Int → Int → Bool → ByteArray → Int → ByteArray → Option (Int)
 | 0, _, _, _, _, _, _, _, _, _ => none
 | k + 1, x0, x3, x6, x7, x8, x28, x241000, x241001, x241002 => if x28 = true then (some 13) else (if (x241002.size : Int) > 64 then (some 2) else (qk.l1 k x0 x3 0 x6 x7 x8 x241000 x241001 x241002))
def qk.l1 : Nat → List (S40) → Int → Int → List (S40) → Int → Int → ByteArray → Int → ByteArray → Option (Int)
 | 0, _, _, _, _, _, _, _, _, _ => none
 | k + 1, x0, x3, x5, x6, x7, x8, x241000, x241001, x241002 => if x5 < x3 then (if 0 ≤ x5 then (if x5 < (x0.length : Int) then (if ((qn x0 x5).f0).toList = x241000.toList then (some 10) else (qk.l1 k x0 x3 (wrap64 (x5 + 1)) x6 x7 x8 x241000 x241001 x241002)) else (none)) else (none)) else (qk.l0 k x0 x6 x7 (wrap64 (x8 + 1)))
end
def qk.f (k : Nat) (l0 : List (S40)) : Option (Int) := qk.l0 k l0 l0 (l0.length : Int) 0
theorem qk.xi : ∀ k, (∀ y0 y1 y2 y3, LeO (qk.l0 k y0 y1 y2 y3) (qk.l0 (k + 1) y0 y1 y2 y3)) ∧ (∀ y0 y1 y2 y3 y4 y5 y6 y7 y8, LeO (qk.j1 k y0 y1 y2 y3 y4 y5 y6 y7 y8) (qk.j1 (k + 1) y0 y1 y2 y3 y4 y5 y6 y7 y8)) ∧ (∀ y0 y1 y2 y3 y4 y5 y6 y7 y8, LeO (qk.l1 k y0 y1 y2 y3 y4 y5 y6 y7 y8) (qk.l1 (k + 1) y0 y1 y2 y3 y4 y5 y6 y7 y8))
 | 0 => ⟨fun _ _ _ _ r h => by simp [qk.l0] at h, fun _ _ _ _ _ _ _ _ _ r h => by simp [qk.j1] at h, fun _ _ _ _ _ _ _ _ _ r h => by simp [qk.l1] at h⟩
 | k + 1 => by
  obtain ⟨ih0, ih1, ih2⟩ := qk.xi k
  refine ⟨?_, ?_, ?_⟩
  ·intro y0 y1 y2 y3
   unfold qk.l0
   repeat' first
   | (with_reducible exact ih0 _ _ _ _)
   | (with_reducible exact ih1 _ _ _ _ _ _ _ _ _)
   | (with_reducible exact ih2 _ _ _ _ _ _ _ _ _)
   | (with_reducible exact zj.mono _ _)
   | (with_reducible exact qj.mono _ _ _)
   | (with_reducible exact LeO.refl _)
   | (with_reducible exact LeO.none _)
   | (with_reducible refine LeO.ite ?_ ?_)
   | (with_reducible refine LeO.bind ?_ (fun _ => ?_))
  ·intro y0 y1 y2 y3 y4 y5 y6 y7 y8
   unfold qk.j1
   repeat' first
   | (with_reducible exact ih0 _ _ _ _)
   | (with_reducible exact ih1 _ _ _ _ _ _ _ _ _)
   | (with_reducible exact ih2 _ _ _ _ _ _ _ _ _)
   | (with_reducible exact zj.mono _ _)
   | (with_reducible exact qj.mono _ _ _)
   | (with_reducible exact LeO.refl _)
   | (with_reducible exact LeO.none _)
   | (with_reducible refine LeO.ite ?_ ?_)
   | (with_reducible refine LeO.bind ?_ (fun _ => ?_))
  ·intro y0 y1 y2 y3 y4 y5 y6 y7 y8
   unfold qk.l1
   repeat' first
   | (with_reducible exact ih0 _ _ _ _)
   | (with_reducible exact ih1 _ _ _ _ _ _ _ _ _)
   | (with_reducible exact ih2 _ _ _ _ _ _ _ _ _)
   | (with_reducible exact zj.mono _ _)
   | (with_reducible exact qj.mono _ _ _)
   | (with_reducible exact LeO.refl _)
   | (with_reducible exact LeO.none _)
   | (with_reducible refine LeO.ite ?_ ?_)
   | (with_reducible refine LeO.bind ?_ (fun _ => ?_))
theorem qk.mono : ∀ a0 k, LeO (qk.f k a0) (qk.f (k + 1) a0) := by
 intro a0 k
 obtain ⟨ih0, ih1, ih2⟩ := qk.xi k
 unfold qk.f
 repeat' first
   | (with_reducible exact ih0 _ _ _ _)
   | (with_reducible exact ih1 _ _ _ _ _ _ _ _ _)
   | (with_reducible exact ih2 _ _ _ _ _ _ _ _ _)
   | (with_reducible exact zj.mono _ _)
   | (with_reducible exact qj.mono _ _ _)
   | (with_reducible exact LeO.refl _)
   | (with_reducible exact LeO.none _)
   | (with_reducible refine LeO.ite ?_ ?_)
   | (with_reducible refine LeO.bind ?_ (fun _ => ?_))
set_option maxHeartbeats 8000000 in
set_option maxRecDepth 100000 in
theorem qk.calls (k : Nat) (A0 : Option Addr) (c0 : Nat) (l0 : List (S40)) (r : Int) (w : World) (hr0 : Kd.C k40 w A0 l0.length l0) (hc0 : l0.length ≤ c0) (h : qk.f k l0 = some r) :
  Calls Tryz.prog 48 #[.slice A0 l0.length c0] w fun e w' => e = .returned (.int .i64 r) ∧ Below w.heap.size w w' := by
 have hu40 := Tryz.underlying40
 have HR0 := qa.mk hr0
 have HC0 := qa.mk hc0
 clear hr0 hc0
 have HB := qa.mk (Below.refl w.heap.size w)
 have H : (qk.l0 k l0 l0 (l0.length : Int) 0) = some r := h
 clear h
 have H' := qa.mk H
 clear H
 go_enter Tryz.func48, Tryz.ntmps48
 go_wp2
 repeat (go_quiet (fail); try go_wp2)
 go_loopg [8] k (fun kq v8 w' => ∃ (x8_1 : Int), v8 = .int .i64 x8_1 ∧ qa (qk.l0 kq l0 l0 (l0.length : Int) x8_1 = some r) ∧ qa (kq ≤ k) ∧ qa (Below w.heap.size w w'))
 case atStart => exact ⟨(0), yf, H', ⟨Nat.le_refl _⟩, ⟨by repeat (first | (with_reducible first | exact HB.out | apply qc | apply qb | apply qd) | exact HB.out)⟩⟩
 case round =>
  clear H'
  obtain ⟨x8_1, rfl, HA, HK1, HB⟩ := hrel
  cases gk with
  | zero => exact absurd HA.out (by simp [qk.l0])
  | succ k1 =>
   have H := HA.out
   clear HA
   simp only [qk.l0] at H
   by_cases c2 : x8_1 < (l0.length : Int)
   ·rw [if_pos c2] at H
    have c2b0 : decide (x8_1 < (l0.length : Int)) = true := decide_eq_true c2
    clear c2
    by_cases c3 : 0 ≤ x8_1
    ·rw [if_pos c3] at H
     have c3b0 : decide (0 ≤ x8_1) = true := decide_eq_true c3
     clear c3
     by_cases c4 : x8_1 < (l0.length : Int)
     ·rw [if_pos c4] at H
      have c4b0 : decide (x8_1 < (l0.length : Int)) = true := decide_eq_true c4
      clear c4
      replace H := Option.bind_eq_some_iff.mp H
      obtain ⟨t241, A50, H⟩ := H
      replace H : (if t241 = true then (if (((qn l0 x8_1).f2).size : Int) = 0 then (qk.j1 k1 l0 x8_1 l0 (l0.length : Int) x8_1 true ((qn l0 x8_1).f0) ((qn l0 x8_1).f1) ((qn l0 x8_1).f2)) else ((qj.f k1 ((qn l0 x8_1).f1) ((qn l0 x8_1).f2)).bind fun t242 => (qk.j1 k1 l0 x8_1 l0 (l0.length : Int) x8_1 (!t242) ((qn l0 x8_1).f0) ((qn l0 x8_1).f1) ((qn l0 x8_1).f2)))) else (some 11)) = some r := H
      have A5 := qa.mk A50
      clear A50
      by_cases c6 : t241 = true
      ·subst c6
       have H1 : (if (((qn l0 x8_1).f2).size : Int) = 0 then (qk.j1 k1 l0 x8_1 l0 (l0.length : Int) x8_1 true ((qn l0 x8_1).f0) ((qn l0 x8_1).f1) ((qn l0 x8_1).f2)) else ((qj.f k1 ((qn l0 x8_1).f1) ((qn l0 x8_1).f2)).bind fun t242 => (qk.j1 k1 l0 x8_1 l0 (l0.length : Int) x8_1 (!t242) ((qn l0 x8_1).f0) ((qn l0 x8_1).f1) ((qn l0 x8_1).f2)))) = some r := by rw [if_pos rfl] at H; exact H
       clear H
       have H := H1
       clear H1
       have HC7 := qa.mk H
       clear H
       have p239 : 0 ≤ (x8_1 : Int) := of_decide_eq_true cz
       have q239 : x8_1 < (l0.length : Int) := of_decide_eq_true cz
       obtain ⟨ad239, e239, hx239_0, hx239_1, hx239_2⟩ := k5 HR0.out x8_1 p239 q239
       cases e239
       replace hx239_0 := (HB.out.cell (World.block_lt_of_cell? w _ hx239_0)).trans hx239_0
       replace hx239_1 := (HB.out.cell (World.block_lt_of_cell? w _ hx239_1)).trans hx239_1
       replace hx239_2 := (HB.out.cell (World.block_lt_of_cell? w _ hx239_2)).trans hx239_2
       replace p239 := eq_true p239
       replace q239 := eq_true q239
       go_upto_region 6 with (first | ((with_reducible refine zl (N := 4) rfl ?_); refine zo ?hg (N := 4) ?hd (cs := #[.string (⟨#[]⟩ : ByteArray), .int .i64 0, .string (⟨#[]⟩ : ByteArray)]) (t := 40) ?hr ?_; (case hd => rfl); (case hg => rfl); (case hr => first | (go_simp; done) | (go_simp; rfl)); intro gb240 hg w8 hbox hb; have n0_ := qa.mk (qp cu hb); have n1_ := qa.mk (hbox); have n2_ := qa.mk ((by rw [hg]; exact (qr cu) : w.heap.size ≤ gb240)); have n3_ := qa.mk ((by rw [hg]; exact (qr cu) : w.heap.size ≤ gb240)); clear HB; have HB := n0_; have BK240 := n1_; have GW240 := n2_; have GE240 := n3_; clear n0_ n1_ n2_ n3_; clear hb hbox hg; have hcz9_0 : w8.cell? ⟨gb240, 0, none⟩ = some (.string (⟨#[]⟩ : ByteArray)) := (ql BK240.out 0).trans rfl; have hcz9_1 : w8.cell? ⟨gb240, 1, none⟩ = some (.int .i64 0) := (ql BK240.out 1).trans rfl; have hcz9_2 : w8.cell? ⟨gb240, 2, none⟩ = some (.string (⟨#[]⟩ : ByteArray)) := (ql BK240.out 2).trans rfl; have hfz9_0 := qo BK240.out 0; have hfz9_1 := qo BK240.out 1; have hfz9_2 := qo BK240.out 2) | (go_at_call 76; (with_reducible refine (zj.calls k1 ((qn l0 x8_1).f0) true _ A5.out).mono ?_); rintro e w10 ⟨rfl, hb⟩; have n0_ := qa.mk (q9 (g := gb240) (o := .cells #[.string ((qn l0 x8_1).f0), .int .i64 ((qn l0 x8_1).f1), .string ((qn l0 x8_1).f2)] 40 (0, 0)) (by (with_reducible repeat (first | refine qg ?_ _ | refine qi ?_ | refine qf ?_ _)); refine zu (cs := #[.string ((qn l0 x8_1).f0), .int .i64 ((qn l0 x8_1).f1), .string (⟨#[]⟩ : ByteArray)]) ?_ 2 _ rfl; (with_reducible repeat (first | refine qg ?_ _ | refine qi ?_ | refine qf ?_ _)); refine zu (cs := #[.string ((qn l0 x8_1).f0), .int .i64 0, .string (⟨#[]⟩ : ByteArray)]) ?_ 1 _ rfl; (with_reducible repeat (first | refine qg ?_ _ | refine qi ?_ | refine qf ?_ _)); refine zu (cs := #[.string (⟨#[]⟩ : ByteArray), .int .i64 0, .string (⟨#[]⟩ : ByteArray)]) ?_ 0 _ rfl; (with_reducible repeat (first | refine qg ?_ _ | refine qi ?_ | refine qf ?_ _)); exact BK240.out) hb); have n1_ := qa.mk (qp uu hb); clear BK240; clear HB; have BK240 := n0_; have HB := n1_; clear n0_ n1_; (try clear hb); (try clear hb2); (try clear hk); (try clear hi)))
       repeat (go_quiet (first | ((with_reducible refine zl (N := 4) rfl ?_); refine zo ?hg (N := 4) ?hd (cs := #[.string (⟨#[]⟩ : ByteArray), .int .i64 0, .string (⟨#[]⟩ : ByteArray)]) (t := 40) ?hr ?_; (case hd => rfl); (case hg => rfl); (case hr => first | (go_simp; done) | (go_simp; rfl)); intro gb240 hg w8 hbox hb; have n0_ := qa.mk (qp cu hb); have n1_ := qa.mk (hbox); have n2_ := qa.mk ((by rw [hg]; exact (qr cu) : w.heap.size ≤ gb240)); have n3_ := qa.mk ((by rw [hg]; exact (qr cu) : w.heap.size ≤ gb240)); clear HB; have HB := n0_; have BK240 := n1_; have GW240 := n2_; have GE240 := n3_; clear n0_ n1_ n2_ n3_; clear hb hbox hg; have hcz9_0 : w8.cell? ⟨gb240, 0, none⟩ = some (.string (⟨#[]⟩ : ByteArray)) := (ql BK240.out 0).trans rfl; have hcz9_1 : w8.cell? ⟨gb240, 1, none⟩ = some (.int .i64 0) := (ql BK240.out 1).trans rfl; have hcz9_2 : w8.cell? ⟨gb240, 2, none⟩ = some (.string (⟨#[]⟩ : ByteArray)) := (ql BK240.out 2).trans rfl; have hfz9_0 := qo BK240.out 0; have hfz9_1 := qo BK240.out 1; have hfz9_2 := qo BK240.out 2) | (go_at_call 76; (with_reducible refine (zj.calls k1 ((qn l0 x8_1).f0) true _ A5.out).mono ?_); rintro e w10 ⟨rfl, hb⟩; have n0_ := qa.mk (q9 (g := gb240) (o := .cells #[.string ((qn l0 x8_1).f0), .int .i64 ((qn l0 x8_1).f1), .string ((qn l0 x8_1).f2)] 40 (0, 0)) (by (with_reducible repeat (first | refine qg ?_ _ | refine qi ?_ | refine qf ?_ _)); refine zu (cs := #[.string ((qn l0 x8_1).f0), .int .i64 ((qn l0 x8_1).f1), .string (⟨#[]⟩ : ByteArray)]) ?_ 2 _ rfl; (with_reducible repeat (first | refine qg ?_ _ | refine qi ?_ | refine qf ?_ _)); refine zu (cs := #[.string ((qn l0 x8_1).f0), .int .i64 0, .string (⟨#[]⟩ : ByteArray)]) ?_ 1 _ rfl; (with_reducible repeat (first | refine qg ?_ _ | refine qi ?_ | refine qf ?_ _)); refine zu (cs := #[.string (⟨#[]⟩ : ByteArray), .int .i64 0, .string (⟨#[]⟩ : ByteArray)]) ?_ 0 _ rfl; (with_reducible repeat (first | refine qg ?_ _ | refine qi ?_ | refine qf ?_ _)); exact BK240.out) hb); have n1_ := qa.mk (qp uu hb); clear BK240; clear HB; have BK240 := n0_; have HB := n1_; clear n0_ n1_; (try clear hb); (try clear hb2); (try clear hk); (try clear hi))); go_upto_region 6 with (first | ((with_reducible refine zl (N := 4) rfl ?_); refine zo ?hg (N := 4) ?hd (cs := #[.string (⟨#[]⟩ : ByteArray), .int .i64 0, .string (⟨#[]⟩ : ByteArray)]) (t := 40) ?hr ?_; (case hd => rfl); (case hg => rfl); (case hr => first | (go_simp; done) | (go_simp; rfl)); intro gb240 hg w8 hbox hb; have n0_ := qa.mk (qp cu hb); have n1_ := qa.mk (hbox); have n2_ := qa.mk ((by rw [hg]; exact (qr cu) : w.heap.size ≤ gb240)); have n3_ := qa.mk ((by rw [hg]; exact (qr cu) : w.heap.size ≤ gb240)); clear HB; have HB := n0_; have BK240 := n1_; have GW240 := n2_; have GE240 := n3_; clear n0_ n1_ n2_ n3_; clear hb hbox hg; have hcz9_0 : w8.cell? ⟨gb240, 0, none⟩ = some (.string (⟨#[]⟩ : ByteArray)) := (ql BK240.out 0).trans rfl; have hcz9_1 : w8.cell? ⟨gb240, 1, none⟩ = some (.int .i64 0) := (ql BK240.out 1).trans rfl; have hcz9_2 : w8.cell? ⟨gb240, 2, none⟩ = some (.string (⟨#[]⟩ : ByteArray)) := (ql BK240.out 2).trans rfl; have hfz9_0 := qo BK240.out 0; have hfz9_1 := qo BK240.out 1; have hfz9_2 := qo BK240.out 2) | (go_at_call 76; (with_reducible refine (zj.calls k1 ((qn l0 x8_1).f0) true _ A5.out).mono ?_); rintro e w10 ⟨rfl, hb⟩; have n0_ := qa.mk (q9 (g := gb240) (o := .cells #[.string ((qn l0 x8_1).f0), .int .i64 ((qn l0 x8_1).f1), .string ((qn l0 x8_1).f2)] 40 (0, 0)) (by (with_reducible repeat (first | refine qg ?_ _ | refine qi ?_ | refine qf ?_ _)); refine zu (cs := #[.string ((qn l0 x8_1).f0), .int .i64 ((qn l0 x8_1).f1), .string (⟨#[]⟩ : ByteArray)]) ?_ 2 _ rfl; (with_reducible repeat (first | refine qg ?_ _ | refine qi ?_ | refine qf ?_ _)); refine zu (cs := #[.string ((qn l0 x8_1).f0), .int .i64 0, .string (⟨#[]⟩ : ByteArray)]) ?_ 1 _ rfl; (with_reducible repeat (first | refine qg ?_ _ | refine qi ?_ | refine qf ?_ _)); refine zu (cs := #[.string (⟨#[]⟩ : ByteArray), .int .i64 0, .string (⟨#[]⟩ : ByteArray)]) ?_ 0 _ rfl; (with_reducible repeat (first | refine qg ?_ _ | refine qi ?_ | refine qf ?_ _)); exact BK240.out) hb); have n1_ := qa.mk (qp uu hb); clear BK240; clear HB; have BK240 := n0_; have HB := n1_; clear n0_ n1_; (try clear hb); (try clear hb2); (try clear hk); (try clear hi))))
       (try simp only [Act.put, List.setIfInBounds_toArray, List.set_cons_zero, List.set_cons_succ])
       go_cut [28] (fun v28 wc => ∃ (kq : Nat) (x28_6 : Bool), v28 = .bool x28_6 ∧ qa (qk.j1 kq l0 x8_1 l0 (l0.length : Int) x8_1 x28_6 ((qn l0 x8_1).f0) ((qn l0 x8_1).f1) ((qn l0 x8_1).f2) = some r) ∧ qa (kq ≤ k1) ∧ qa (wc.heap[gb240]? = some (.cells #[.string ((qn l0 x8_1).f0), .int .i64 ((qn l0 x8_1).f1), .string ((qn l0 x8_1).f2)] 40 (0, 0))) ∧ qa (Below w.heap.size w wc))
       case first =>
        have H := HC7.out
        clear HC7
        by_cases c11 : (((qn l0 x8_1).f2).size : Int) = 0
        ·rw [if_pos c11] at H
         have c11b0 : ((((qn l0 x8_1).f2).size : Int) == 0) = true := beq_iff_eq.mpr c11
         have c11b1 : ((((qn l0 x8_1).f2).size : Int) != 0) = false := bne_eq_false_iff_eq.mpr c11
         clear c11
         (first | rw [c11b0] | (simp only [zm, zq]; rw [c11b0]) | skip)
         have H' := qa.mk H
         clear H
         have hcz12_0 : w10.cell? ⟨gb240, 0, none⟩ = some (.string ((qn l0 x8_1).f0)) := (ql BK240.out 0).trans rfl
         have hcz12_1 : w10.cell? ⟨gb240, 1, none⟩ = some (.int .i64 ((qn l0 x8_1).f1)) := (ql BK240.out 1).trans rfl
         have hcz12_2 : w10.cell? ⟨gb240, 2, none⟩ = some (.string ((qn l0 x8_1).f2)) := (ql BK240.out 2).trans rfl
         have hfz12_0 := qo BK240.out 0
         have hfz12_1 := qo BK240.out 1
         have hfz12_2 := qo BK240.out 2
         go_wp2
         repeat (go_quiet (fail); try go_wp2)
         go_meet
         case rel => exact ⟨_, (true), yf, H', ⟨by have := HK1.out; first | omega | exact Nat.le_refl _⟩, ⟨by (with_reducible repeat (first | refine qg ?_ _ | refine qi ?_ | refine qf ?_ _)); exact BK240.out⟩, ⟨by repeat (first | (with_reducible first | exact HB.out | apply qc | apply qb | apply qd | refine qe ?_ GE240.out) | exact HB.out)⟩⟩
        ·rw [if_neg c11] at H
         have c11b0 : ((((qn l0 x8_1).f2).size : Int) == 0) = false := beq_eq_false_iff_ne.mpr c11
         have c11b1 : ((((qn l0 x8_1).f2).size : Int) != 0) = true := bne_iff_ne.mpr c11
         (first | rw [c11b0] | (simp only [zm, zq]; rw [c11b0]) | skip)
         replace H := Option.bind_eq_some_iff.mp H
         obtain ⟨t242, A130, H⟩ := H
         replace H : (qk.j1 k1 l0 x8_1 l0 (l0.length : Int) x8_1 (!t242) ((qn l0 x8_1).f0) ((qn l0 x8_1).f1) ((qn l0 x8_1).f2)) = some r := H
         have A13 := qa.mk A130
         clear A130
         have H' := qa.mk H
         clear H
         have hcz14_0 : w10.cell? ⟨gb240, 0, none⟩ = some (.string ((qn l0 x8_1).f0)) := (ql BK240.out 0).trans rfl
         have hcz14_1 : w10.cell? ⟨gb240, 1, none⟩ = some (.int .i64 ((qn l0 x8_1).f1)) := (ql BK240.out 1).trans rfl
         have hcz14_2 : w10.cell? ⟨gb240, 2, none⟩ = some (.string ((qn l0 x8_1).f2)) := (ql BK240.out 2).trans rfl
         have hfz14_0 := qo BK240.out 0
         have hfz14_1 := qo BK240.out 1
         have hfz14_2 := qo BK240.out 2
         go_wp2_with (first | (go_at_call 77; (with_reducible refine (qj.calls k1 ((qn l0 x8_1).f1) ((qn l0 x8_1).f2) t242 _ A13.out).mono ?_); rintro e w' ⟨rfl, ⟨nd, rfl⟩⟩; (try first | exact ⟨rfl, _, World.drewN_drewN _ _ _⟩ | exact ⟨rfl, _, Eq.trans (World.drewN_drewN _ _ _) (congrArg (World.drewN _) (Nat.add_assoc _ _ _))⟩)))
         repeat (go_quiet (first | (go_at_call 77; (with_reducible refine (qj.calls k1 ((qn l0 x8_1).f1) ((qn l0 x8_1).f2) t242 _ A13.out).mono ?_); rintro e w' ⟨rfl, ⟨nd, rfl⟩⟩; (try first | exact ⟨rfl, _, World.drewN_drewN _ _ _⟩ | exact ⟨rfl, _, Eq.trans (World.drewN_drewN _ _ _) (congrArg (World.drewN _) (Nat.add_assoc _ _ _))⟩))); try go_wp2_with (first | (go_at_call 77; (with_reducible refine (qj.calls k1 ((qn l0 x8_1).f1) ((qn l0 x8_1).f2) t242 _ A13.out).mono ?_); rintro e w' ⟨rfl, ⟨nd, rfl⟩⟩; (try first | exact ⟨rfl, _, World.drewN_drewN _ _ _⟩ | exact ⟨rfl, _, Eq.trans (World.drewN_drewN _ _ _) (congrArg (World.drewN _) (Nat.add_assoc _ _ _))⟩))))
         go_meet
         case rel => exact ⟨_, (!t242), yf, H', ⟨by have := HK1.out; first | omega | exact Nat.le_refl _⟩, ⟨by (with_reducible repeat (first | refine qg ?_ _ | refine qi ?_ | refine qf ?_ _)); exact BK240.out⟩, ⟨by repeat (first | (with_reducible first | exact HB.out | apply qc | apply qb | apply qd | refine qe ?_ GE240.out) | exact HB.out)⟩⟩
       case rest =>
        clear HC7
        (try clear c1); (try clear c2); (try clear c2b0); (try clear p2); (try clear q2); (try clear hx2); (try clear c3); (try clear c3b0); (try clear c4); (try clear c4b0); (try clear c6); try clear c11
        (try clear c11b0); (try clear c11b1); (try clear hcz12_0); (try clear hcz12_1); (try clear hcz12_2); (try clear hcz14_0); (try clear hcz14_1); (try clear hcz14_2); (try clear hcz9_0); try clear hcz9_1
        (try clear hcz9_2); (try clear hfz12_0); (try clear hfz12_1); (try clear hfz12_2); (try clear hfz14_0); (try clear hfz14_1); (try clear hfz14_2); (try clear hfz9_0); (try clear hfz9_1); try clear hfz9_2
        (try clear hx239_0); (try clear hx239_1); (try clear hx239_2); (try clear p239); try clear q239
        obtain ⟨kq, x28_6, rfl, HA, HJ6, BK240, HB⟩ := hcut
        cases kq with
        | zero => exact absurd HA.out (by simp [qk.j1])
        | succ kj6 =>
         have H := HA.out
         clear HA
         simp only [qk.j1] at H
         by_cases c15 : x28_6 = true
         ·subst c15
          have H1 : (some 13) = some r := by rw [if_pos rfl] at H; exact H
          clear H
          have H := H1
          clear H1
          obtain rfl := Option.some.inj H
          go_wp2
          repeat (go_quiet (fail); try go_wp2)
          go_ret
          exact ⟨by first | rfl | (simp [qu, qt] <;> rfl) | (simp [*, qu, qt] <;> rfl), by repeat (first | (with_reducible first | exact HB.out | apply qc | apply qb | apply qd | refine qe ?_ GE240.out) | exact HB.out)⟩
         ·replace c15 := Bool.eq_false_iff.mpr c15
          subst c15
          have H1 : (if (((qn l0 x8_1).f2).size : Int) > 64 then (some 2) else (qk.l1 kj6 l0 x8_1 0 l0 (l0.length : Int) x8_1 ((qn l0 x8_1).f0) ((qn l0 x8_1).f1) ((qn l0 x8_1).f2))) = some r := by rw [if_neg (show ¬ (false = true) by decide)] at H; exact H
          clear H
          have H := H1
          clear H1
          by_cases c16 : (((qn l0 x8_1).f2).size : Int) > 64
          ·rw [if_pos c16] at H
           have c16b0 : decide (64 < (((qn l0 x8_1).f2).size : Int)) = true := decide_eq_true c16
           have c16b1 : decide (64 < ((qn l0 x8_1).f2).size) = true := decide_eq_true yg
           clear c16
           obtain rfl := Option.some.inj H
           have hcz17_0 : wc.cell? ⟨gb240, 0, none⟩ = some (.string ((qn l0 x8_1).f0)) := (ql BK240.out 0).trans rfl
           have hcz17_1 : wc.cell? ⟨gb240, 1, none⟩ = some (.int .i64 ((qn l0 x8_1).f1)) := (ql BK240.out 1).trans rfl
           have hcz17_2 : wc.cell? ⟨gb240, 2, none⟩ = some (.string ((qn l0 x8_1).f2)) := (ql BK240.out 2).trans rfl
           have hfz17_0 := qo BK240.out 0
           have hfz17_1 := qo BK240.out 1
           have hfz17_2 := qo BK240.out 2
           go_wp2
           repeat (go_quiet (fail); try go_wp2)
           go_ret
           exact ⟨by first | rfl | (simp [qu, qt] <;> rfl) | (simp [*, qu, qt] <;> rfl), by repeat (first | (with_reducible first | exact HB.out | apply qc | apply qb | apply qd | refine qe ?_ GE240.out) | exact HB.out)⟩
          ·rw [if_neg c16] at H
           have c16b0 : decide (64 < (((qn l0 x8_1).f2).size : Int)) = false := decide_eq_false c16
           have c16b1 : decide (64 < ((qn l0 x8_1).f2).size) = false := decide_eq_false yg
           clear c16
           have H' := qa.mk H
           clear H
           have hcz18_0 : wc.cell? ⟨gb240, 0, none⟩ = some (.string ((qn l0 x8_1).f0)) := (ql BK240.out 0).trans rfl
           have hcz18_1 : wc.cell? ⟨gb240, 1, none⟩ = some (.int .i64 ((qn l0 x8_1).f1)) := (ql BK240.out 1).trans rfl
           have hcz18_2 : wc.cell? ⟨gb240, 2, none⟩ = some (.string ((qn l0 x8_1).f2)) := (ql BK240.out 2).trans rfl
           have hfz18_0 := qo BK240.out 0
           have hfz18_1 := qo BK240.out 1
           have hfz18_2 := qo BK240.out 2
           go_wp2
           repeat (go_quiet (fail); try go_wp2)
           go_loopg [5] kj6 (fun kq v5 w' => ∃ (x5_3 : Int), v5 = .int .i64 x5_3 ∧ qa (qk.l1 kq l0 x8_1 x5_3 l0 (l0.length : Int) x8_1 ((qn l0 x8_1).f0) ((qn l0 x8_1).f1) ((qn l0 x8_1).f2) = some r) ∧ qa (kq ≤ kj6) ∧ qa (w'.heap[gb240]? = some (.cells #[.string ((qn l0 x8_1).f0), .int .i64 ((qn l0 x8_1).f1), .string ((qn l0 x8_1).f2)] 40 (0, 0))) ∧ qa (Below w.heap.size w w'))
           case atStart => exact ⟨(0), yf, H', ⟨Nat.le_refl _⟩, ⟨by (with_reducible repeat (first | refine qg ?_ _ | refine qi ?_ | refine qf ?_ _)); exact BK240.out⟩, ⟨by repeat (first | (with_reducible first | exact HB.out | apply qc | apply qb | apply qd | refine qe ?_ GE240.out) | exact HB.out)⟩⟩
           case round =>
            clear H'
            (try clear c1); (try clear c2); (try clear c2b0); (try clear p2); (try clear q2); (try clear hx2); (try clear c3); (try clear c3b0); (try clear c4); (try clear c4b0); try clear c6
            (try clear c11); (try clear c11b0); (try clear c11b1); (try clear c15); (try clear c16); (try clear c16b0); (try clear c16b1); (try clear hcz12_0); (try clear hcz12_1); try clear hcz12_2
            (try clear hcz14_0); (try clear hcz14_1); (try clear hcz14_2); (try clear hcz17_0); (try clear hcz17_1); (try clear hcz17_2); (try clear hcz18_0); (try clear hcz18_1); try clear hcz18_2
            (try clear hcz9_0); (try clear hcz9_1); (try clear hcz9_2); (try clear hfz12_0); (try clear hfz12_1); (try clear hfz12_2); (try clear hfz14_0); (try clear hfz14_1); try clear hfz14_2
            (try clear hfz17_0); (try clear hfz17_1); (try clear hfz17_2); (try clear hfz18_0); (try clear hfz18_1); (try clear hfz18_2); (try clear hfz9_0); (try clear hfz9_1); try clear hfz9_2
            (try clear hx239_0); (try clear hx239_1); (try clear hx239_2); (try clear p2); (try clear p239); (try clear q2); try clear q239
            obtain ⟨x5_3, rfl, HA, HK3, BK240, HB⟩ := hrel
            cases gk with
            | zero => exact absurd HA.out (by simp [qk.l1])
            | succ k3 =>
             have H := HA.out
             clear HA
             simp only [qk.l1] at H
             by_cases c19 : x5_3 < x8_1
             ·rw [if_pos c19] at H
              have c19b0 : decide (x5_3 < x8_1) = true := decide_eq_true c19
              clear c19
              by_cases c20 : 0 ≤ x5_3
              ·rw [if_pos c20] at H
               have c20b0 : decide (0 ≤ x5_3) = true := decide_eq_true c20
               clear c20
               by_cases c21 : x5_3 < (l0.length : Int)
               ·rw [if_pos c21] at H
                have c21b0 : decide (x5_3 < (l0.length : Int)) = true := decide_eq_true c21
                clear c21
                by_cases c22 : ((qn l0 x5_3).f0).toList = ((qn l0 x8_1).f0).toList
                ·rw [if_pos c22] at H
                 have c22b0 : (((qn l0 x5_3).f0).toList == ((qn l0 x8_1).f0).toList) = true := beq_iff_eq.mpr c22
                 have c22b1 : (((qn l0 x5_3).f0).toList != ((qn l0 x8_1).f0).toList) = false := bne_eq_false_iff_eq.mpr c22
                 clear c22
                 obtain rfl := Option.some.inj H
                 have p243 : 0 ≤ (x5_3 : Int) := of_decide_eq_true cz
                 have q243 : x5_3 < (l0.length : Int) := of_decide_eq_true cz
                 obtain ⟨ad243, e243, hx243_0, hx243_1, hx243_2⟩ := k5 HR0.out x5_3 p243 q243
                 obtain rfl : ad239 = ad243 := (by injection e243)
                 replace hx243_0 := (HB.out.cell (World.block_lt_of_cell? w _ hx243_0)).trans hx243_0
                 replace hx243_1 := (HB.out.cell (World.block_lt_of_cell? w _ hx243_1)).trans hx243_1
                 replace hx243_2 := (HB.out.cell (World.block_lt_of_cell? w _ hx243_2)).trans hx243_2
                 replace p243 := eq_true p243
                 replace q243 := eq_true q243
                 have hcz23_0 : wr.cell? ⟨gb240, 0, none⟩ = some (.string ((qn l0 x8_1).f0)) := (ql BK240.out 0).trans rfl
                 have hcz23_1 : wr.cell? ⟨gb240, 1, none⟩ = some (.int .i64 ((qn l0 x8_1).f1)) := (ql BK240.out 1).trans rfl
                 have hcz23_2 : wr.cell? ⟨gb240, 2, none⟩ = some (.string ((qn l0 x8_1).f2)) := (ql BK240.out 2).trans rfl
                 have hfz23_0 := qo BK240.out 0
                 have hfz23_1 := qo BK240.out 1
                 have hfz23_2 := qo BK240.out 2
                 go_wp2
                 repeat (go_quiet (fail); try go_wp2)
                 go_ret
                 exact ⟨by first | rfl | (simp [qu, qt] <;> rfl) | (simp [*, qu, qt] <;> rfl), by repeat (first | (with_reducible first | exact HB.out | apply qc | apply qb | apply qd | refine qe ?_ GE240.out) | exact HB.out)⟩
                ·rw [if_neg c22] at H
                 have c22b0 : (((qn l0 x5_3).f0).toList == ((qn l0 x8_1).f0).toList) = false := beq_eq_false_iff_ne.mpr c22
                 have c22b1 : (((qn l0 x5_3).f0).toList != ((qn l0 x8_1).f0).toList) = true := bne_iff_ne.mpr c22
                 have H' := qa.mk H
                 clear H
                 have p243 : 0 ≤ (x5_3 : Int) := of_decide_eq_true cz
                 have q243 : x5_3 < (l0.length : Int) := of_decide_eq_true cz
                 obtain ⟨ad243, e243, hx243_0, hx243_1, hx243_2⟩ := k5 HR0.out x5_3 p243 q243
                 obtain rfl : ad239 = ad243 := (by injection e243)
                 replace hx243_0 := (HB.out.cell (World.block_lt_of_cell? w _ hx243_0)).trans hx243_0
                 replace hx243_1 := (HB.out.cell (World.block_lt_of_cell? w _ hx243_1)).trans hx243_1
                 replace hx243_2 := (HB.out.cell (World.block_lt_of_cell? w _ hx243_2)).trans hx243_2
                 replace p243 := eq_true p243
                 replace q243 := eq_true q243
                 have hcz24_0 : wr.cell? ⟨gb240, 0, none⟩ = some (.string ((qn l0 x8_1).f0)) := (ql BK240.out 0).trans rfl
                 have hcz24_1 : wr.cell? ⟨gb240, 1, none⟩ = some (.int .i64 ((qn l0 x8_1).f1)) := (ql BK240.out 1).trans rfl
                 have hcz24_2 : wr.cell? ⟨gb240, 2, none⟩ = some (.string ((qn l0 x8_1).f2)) := (ql BK240.out 2).trans rfl
                 have hfz24_0 := qo BK240.out 0
                 have hfz24_1 := qo BK240.out 1
                 have hfz24_2 := qo BK240.out 2
                 go_wp2
                 repeat (go_quiet (fail); try go_wp2)
                 go_roundg k3
                 case measure => have := HK1.out; have := HJ6.out; have := HK3.out; omega
                 case rel => exact ⟨(wrap64 (x5_3 + 1)), yf, H', ⟨by have := HK1.out; have := HJ6.out; have := HK3.out; omega⟩, ⟨by (with_reducible repeat (first | refine qg ?_ _ | refine qi ?_ | refine qf ?_ _)); exact BK240.out⟩, ⟨by repeat (first | (with_reducible first | exact HB.out | apply qc | apply qb | apply qd | refine qe ?_ GE240.out) | exact HB.out)⟩⟩
               ·rw [if_neg c21] at H
                exact absurd H yt
              ·rw [if_neg c20] at H
               exact absurd H yt
             ·rw [if_neg c19] at H
              have c19b0 : decide (x5_3 < x8_1) = false := decide_eq_false c19
              clear c19
              have H' := qa.mk H
              clear H
              go_wp2
              repeat (go_quiet (fail); try go_wp2)
              go_roundg k3
              case measure => have := HK1.out; have := HJ6.out; have := HK3.out; omega
              case rel => exact ⟨(wrap64 (x8_1 + 1)), yf, H', ⟨by have := HK1.out; have := HJ6.out; have := HK3.out; omega⟩, ⟨by repeat (first | (with_reducible first | exact HB.out | apply qc | apply qb | apply qd | refine qe ?_ GE240.out) | exact HB.out)⟩⟩
      ·replace c6 := Bool.eq_false_iff.mpr c6
       subst c6
       have H1 : (some 11) = some r := by rw [if_neg (show ¬ (false = true) by decide)] at H; exact H
       clear H
       have H := H1
       clear H1
       obtain rfl := Option.some.inj H
       have p239 : 0 ≤ (x8_1 : Int) := of_decide_eq_true cz
       have q239 : x8_1 < (l0.length : Int) := of_decide_eq_true cz
       obtain ⟨ad239, e239, hx239_0, hx239_1, hx239_2⟩ := k5 HR0.out x8_1 p239 q239
       cases e239
       replace hx239_0 := (HB.out.cell (World.block_lt_of_cell? w _ hx239_0)).trans hx239_0
       replace hx239_1 := (HB.out.cell (World.block_lt_of_cell? w _ hx239_1)).trans hx239_1
       replace hx239_2 := (HB.out.cell (World.block_lt_of_cell? w _ hx239_2)).trans hx239_2
       replace p239 := eq_true p239
       replace q239 := eq_true q239
       go_wp2_with (first | ((with_reducible refine zl (N := 4) rfl ?_); refine zo ?hg (N := 4) ?hd (cs := #[.string (⟨#[]⟩ : ByteArray), .int .i64 0, .string (⟨#[]⟩ : ByteArray)]) (t := 40) ?hr ?_; (case hd => rfl); (case hg => rfl); (case hr => first | (go_simp; done) | (go_simp; rfl)); intro gb240 hg w25 hbox hb; have n0_ := qa.mk (qp cu hb); have n1_ := qa.mk (hbox); have n2_ := qa.mk ((by rw [hg]; exact (qr cu) : w.heap.size ≤ gb240)); have n3_ := qa.mk ((by rw [hg]; exact (qr cu) : w.heap.size ≤ gb240)); clear HB; have HB := n0_; have BK240 := n1_; have GW240 := n2_; have GE240 := n3_; clear n0_ n1_ n2_ n3_; clear hb hbox hg; have hcz26_0 : w25.cell? ⟨gb240, 0, none⟩ = some (.string (⟨#[]⟩ : ByteArray)) := (ql BK240.out 0).trans rfl; have hcz26_1 : w25.cell? ⟨gb240, 1, none⟩ = some (.int .i64 0) := (ql BK240.out 1).trans rfl; have hcz26_2 : w25.cell? ⟨gb240, 2, none⟩ = some (.string (⟨#[]⟩ : ByteArray)) := (ql BK240.out 2).trans rfl; have hfz26_0 := qo BK240.out 0; have hfz26_1 := qo BK240.out 1; have hfz26_2 := qo BK240.out 2) | (go_at_call 76; (with_reducible refine (zj.calls k1 ((qn l0 x8_1).f0) false _ A5.out).mono ?_); rintro e w27 ⟨rfl, hb⟩; have n0_ := qa.mk (q9 (g := gb240) (o := .cells #[.string ((qn l0 x8_1).f0), .int .i64 ((qn l0 x8_1).f1), .string ((qn l0 x8_1).f2)] 40 (0, 0)) (by (with_reducible repeat (first | refine qg ?_ _ | refine qi ?_ | refine qf ?_ _)); refine zu (cs := #[.string ((qn l0 x8_1).f0), .int .i64 ((qn l0 x8_1).f1), .string (⟨#[]⟩ : ByteArray)]) ?_ 2 _ rfl; (with_reducible repeat (first | refine qg ?_ _ | refine qi ?_ | refine qf ?_ _)); refine zu (cs := #[.string ((qn l0 x8_1).f0), .int .i64 0, .string (⟨#[]⟩ : ByteArray)]) ?_ 1 _ rfl; (with_reducible repeat (first | refine qg ?_ _ | refine qi ?_ | refine qf ?_ _)); refine zu (cs := #[.string (⟨#[]⟩ : ByteArray), .int .i64 0, .string (⟨#[]⟩ : ByteArray)]) ?_ 0 _ rfl; (with_reducible repeat (first | refine qg ?_ _ | refine qi ?_ | refine qf ?_ _)); exact BK240.out) hb); have n1_ := qa.mk (qp uu hb); clear BK240; clear HB; have BK240 := n0_; have HB := n1_; clear n0_ n1_; (try clear hb); (try clear hb2); (try clear hk); (try clear hi)))
       repeat (go_quiet (first | ((with_reducible refine zl (N := 4) rfl ?_); refine zo ?hg (N := 4) ?hd (cs := #[.string (⟨#[]⟩ : ByteArray), .int .i64 0, .string (⟨#[]⟩ : ByteArray)]) (t := 40) ?hr ?_; (case hd => rfl); (case hg => rfl); (case hr => first | (go_simp; done) | (go_simp; rfl)); intro gb240 hg w25 hbox hb; have n0_ := qa.mk (qp cu hb); have n1_ := qa.mk (hbox); have n2_ := qa.mk ((by rw [hg]; exact (qr cu) : w.heap.size ≤ gb240)); have n3_ := qa.mk ((by rw [hg]; exact (qr cu) : w.heap.size ≤ gb240)); clear HB; have HB := n0_; have BK240 := n1_; have GW240 := n2_; have GE240 := n3_; clear n0_ n1_ n2_ n3_; clear hb hbox hg; have hcz26_0 : w25.cell? ⟨gb240, 0, none⟩ = some (.string (⟨#[]⟩ : ByteArray)) := (ql BK240.out 0).trans rfl; have hcz26_1 : w25.cell? ⟨gb240, 1, none⟩ = some (.int .i64 0) := (ql BK240.out 1).trans rfl; have hcz26_2 : w25.cell? ⟨gb240, 2, none⟩ = some (.string (⟨#[]⟩ : ByteArray)) := (ql BK240.out 2).trans rfl; have hfz26_0 := qo BK240.out 0; have hfz26_1 := qo BK240.out 1; have hfz26_2 := qo BK240.out 2) | (go_at_call 76; (with_reducible refine (zj.calls k1 ((qn l0 x8_1).f0) false _ A5.out).mono ?_); rintro e w27 ⟨rfl, hb⟩; have n0_ := qa.mk (q9 (g := gb240) (o := .cells #[.string ((qn l0 x8_1).f0), .int .i64 ((qn l0 x8_1).f1), .string ((qn l0 x8_1).f2)] 40 (0, 0)) (by (with_reducible repeat (first | refine qg ?_ _ | refine qi ?_ | refine qf ?_ _)); refine zu (cs := #[.string ((qn l0 x8_1).f0), .int .i64 ((qn l0 x8_1).f1), .string (⟨#[]⟩ : ByteArray)]) ?_ 2 _ rfl; (with_reducible repeat (first | refine qg ?_ _ | refine qi ?_ | refine qf ?_ _)); refine zu (cs := #[.string ((qn l0 x8_1).f0), .int .i64 0, .string (⟨#[]⟩ : ByteArray)]) ?_ 1 _ rfl; (with_reducible repeat (first | refine qg ?_ _ | refine qi ?_ | refine qf ?_ _)); refine zu (cs := #[.string (⟨#[]⟩ : ByteArray), .int .i64 0, .string (⟨#[]⟩ : ByteArray)]) ?_ 0 _ rfl; (with_reducible repeat (first | refine qg ?_ _ | refine qi ?_ | refine qf ?_ _)); exact BK240.out) hb); have n1_ := qa.mk (qp uu hb); clear BK240; clear HB; have BK240 := n0_; have HB := n1_; clear n0_ n1_; (try clear hb); (try clear hb2); (try clear hk); (try clear hi))); try go_wp2_with (first | ((with_reducible refine zl (N := 4) rfl ?_); refine zo ?hg (N := 4) ?hd (cs := #[.string (⟨#[]⟩ : ByteArray), .int .i64 0, .string (⟨#[]⟩ : ByteArray)]) (t := 40) ?hr ?_; (case hd => rfl); (case hg => rfl); (case hr => first | (go_simp; done) | (go_simp; rfl)); intro gb240 hg w25 hbox hb; have n0_ := qa.mk (qp cu hb); have n1_ := qa.mk (hbox); have n2_ := qa.mk ((by rw [hg]; exact (qr cu) : w.heap.size ≤ gb240)); have n3_ := qa.mk ((by rw [hg]; exact (qr cu) : w.heap.size ≤ gb240)); clear HB; have HB := n0_; have BK240 := n1_; have GW240 := n2_; have GE240 := n3_; clear n0_ n1_ n2_ n3_; clear hb hbox hg; have hcz26_0 : w25.cell? ⟨gb240, 0, none⟩ = some (.string (⟨#[]⟩ : ByteArray)) := (ql BK240.out 0).trans rfl; have hcz26_1 : w25.cell? ⟨gb240, 1, none⟩ = some (.int .i64 0) := (ql BK240.out 1).trans rfl; have hcz26_2 : w25.cell? ⟨gb240, 2, none⟩ = some (.string (⟨#[]⟩ : ByteArray)) := (ql BK240.out 2).trans rfl; have hfz26_0 := qo BK240.out 0; have hfz26_1 := qo BK240.out 1; have hfz26_2 := qo BK240.out 2) | (go_at_call 76; (with_reducible refine (zj.calls k1 ((qn l0 x8_1).f0) false _ A5.out).mono ?_); rintro e w27 ⟨rfl, hb⟩; have n0_ := qa.mk (q9 (g := gb240) (o := .cells #[.string ((qn l0 x8_1).f0), .int .i64 ((qn l0 x8_1).f1), .string ((qn l0 x8_1).f2)] 40 (0, 0)) (by (with_reducible repeat (first | refine qg ?_ _ | refine qi ?_ | refine qf ?_ _)); refine zu (cs := #[.string ((qn l0 x8_1).f0), .int .i64 ((qn l0 x8_1).f1), .string (⟨#[]⟩ : ByteArray)]) ?_ 2 _ rfl; (with_reducible repeat (first | refine qg ?_ _ | refine qi ?_ | refine qf ?_ _)); refine zu (cs := #[.string ((qn l0 x8_1).f0), .int .i64 0, .string (⟨#[]⟩ : ByteArray)]) ?_ 1 _ rfl; (with_reducible repeat (first | refine qg ?_ _ | refine qi ?_ | refine qf ?_ _)); refine zu (cs := #[.string (⟨#[]⟩ : ByteArray), .int .i64 0, .string (⟨#[]⟩ : ByteArray)]) ?_ 0 _ rfl; (with_reducible repeat (first | refine qg ?_ _ | refine qi ?_ | refine qf ?_ _)); exact BK240.out) hb); have n1_ := qa.mk (qp uu hb); clear BK240; clear HB; have BK240 := n0_; have HB := n1_; clear n0_ n1_; (try clear hb); (try clear hb2); (try clear hk); (try clear hi))))
       go_ret
       exact ⟨by first | rfl | (simp [qu, qt] <;> rfl) | (simp [*, qu, qt] <;> rfl), by repeat (first | (with_reducible first | exact HB.out | apply qc | apply qb | apply qd | refine qe ?_ GE240.out) | exact HB.out)⟩
     ·rw [if_neg c4] at H
      exact absurd H yt
    ·rw [if_neg c3] at H
     exact absurd H yt
   ·rw [if_neg c2] at H
    have c2b0 : decide (x8_1 < (l0.length : Int)) = false := decide_eq_false c2
    clear c2
    obtain rfl := Option.some.inj H
    go_wp2
    repeat (go_quiet (fail); try go_wp2)
    go_ret
    exact ⟨by first | rfl | (simp [qu, qt] <;> rfl) | (simp [*, qu, qt] <;> rfl), by repeat (first | (with_reducible first | exact HB.out | apply qc | apply qb | apply qd) | exact HB.out)⟩
end Go.Proofs.YthdoohfdminfgaaGreatDoor.C
end
