/- Words, walks and plain laws that the claim rests on, gathered. -/
import Derived.Shelf.Strings.Builder1
import Derived.Shelf.Strings.Builder2
import Derived.Shelf.Strings.OnBuilder
import Derived.Shelf.Small.Bits
import Derived.Shelf.Small.Strs
import Derived.Shelf.Small.Wraps
import Derived.Shelf.Strings.BuilderF
import Derived.Shelf.Strings.BuilderK
import Derived.Shelf.Utf8.RuneCount
import Derived.Shelf.Strings.Builder2Cap
import Derived.Shelf.Strconv.Itoa0
import Derived.Shelf.Strings.Search1
import Derived.Shelf.Strings.Search2
import Derived.Shelf.Strings.Search3
import Derived.Shelf.Strings.Cut
import Derived.Shelf.Strings.Count
import Derived.Shelf.LaysM
import Derived.Shelf.Strings.Shaped
import Derived.Shelf.Sort.Plain
import Derived.Shelf.Strings.Prefix
import Derived.Shelf.Strings.Split
import Derived.Shelf.Strings.SplitShaped
import Derived.Shelf.Unicode.Decode
import Derived.Shelf.Strings.RuneCount
import Derived.Shelf.Strings.Explode
import Derived.Shelf.Unicode.DecodeSlow
import Derived.Shelf.Unicode.DecodeAny
import Derived.Shelf.Strings.BuilderCap
import Derived.Shelf.Slices.In.SortNone
import Derived.Shelf.Slices.In.SortNone2
import Derived.Test.YtlamfnaoemingaaGreatDoorProg
import Derived.Below
import Derived.Deep.Draws
import Derived.Deep.AppendLies
import Derived.Maps.AppendAt
import Derived.OwnWalk
import Derived.Laws.BytesArg
import Derived.Laws.MakeOwn
import Derived.Laws.OwnMore
import Derived.Deep.OwnRows
import Derived.Tactics
import Derived.Lib.ConvBytes
import Derived.Laws.Slices
import Derived.WalkKit
import Derived.KernelRfl
import Derived.RowKit3
import Derived.Deep.LoopGhost
import Derived.Deep.QuietTactic
import Derived.BigQuiet
import Derived.WideLaws
import Derived.Deep.DeepCutAuto
import Derived.Deep.CutBlock
import Derived.Deep.RegionHeld3
import Derived.Laws.Rows
import Derived.Lib.AppendStr
import Derived.ArgAppend
import Derived.Laws.IdiomCopy
import Derived.RowKit
import Derived.OrdersHeld
import Derived.Laws.BitsLemmas
import Derived.WalkSpells
import Derived.WalkLawsBesides
import Derived.Laws.StructEq
import Derived.Test.YtlamfnaoemingaaGreatDoorGS0
import Derived.Test.YtlamfnaoemingaaGreatDoorGS1
import Derived.Test.YtlamfnaoemingaaGreatDoorGS2
import Derived.Test.YtlamfnaoemingaaGreatDoorGSc
namespace Go.Proofs.YtlamfnaoemingaaGreatDoorW.PrintLast
end Go.Proofs.YtlamfnaoemingaaGreatDoorW.PrintLast
namespace Go.Proofs.YtlamfnaoemingaaGreatDoorW.PrintMore
end Go.Proofs.YtlamfnaoemingaaGreatDoorW.PrintMore
namespace Go.Proofs.YtlamfnaoemingaaGreatDoorW.PrintWords
end Go.Proofs.YtlamfnaoemingaaGreatDoorW.PrintWords
section
namespace Go.Proofs.YtlamfnaoemingaaGreatDoor.C
open Go.RowKit Go.Proofs.YtlamfnaoemingaaGreatDoorW.PrintWords Go.Proofs.YtlamfnaoemingaaGreatDoorW.PrintLast Go.Proofs.YtlamfnaoemingaaGreatDoorW.PrintMore
attribute [local go_sem] zw zx xe xd zn zp zy zz
set_option linter.unusedVariables false
set_option linter.unusedSimpArgs false
def xj.f (a0 : Int) : Option (Int) := if a0 = 1 then (some 0) else (if a0 = 2 then (some 1) else (if a0 = 4 then (some 2) else (if a0 = 7 then (some 3) else (some 4))))
set_option maxHeartbeats 8000000 in
set_option maxRecDepth 100000 in
theorem xj.calls (a0 : Int) (r : Int) (w : World) (h : xj.f a0 = some r) :
  Calls Tryz.prog 65 #[.int .i64 a0] w fun e w' => e = .returned (.int .i64 r) ∧ qy w w' := by
 have H : (if a0 = 1 then (some 0) else (if a0 = 2 then (some 1) else (if a0 = 4 then (some 2) else (if a0 = 7 then (some 3) else (some 4))))) = some r := h
 clear h
 by_cases c2 : a0 = 1
 ·rw [if_pos c2] at H
  have c2b0 : (a0 == 1) = true := beq_iff_eq.mpr c2
  have c2b1 : (a0 != 1) = false := bne_eq_false_iff_eq.mpr c2
  clear c2
  obtain rfl := Option.some.inj H
  go_enter Tryz.func65, Tryz.ntmps65
  go_wp2
  go_ret
  exact ⟨by first | rfl | (simp; done) | (simp [*]; done), by repeat (first | exact qy.refl _ | apply qy.step)⟩
 ·rw [if_neg c2] at H
  have c2b0 : (a0 == 1) = false := beq_eq_false_iff_ne.mpr c2
  have c2b1 : (a0 != 1) = true := bne_iff_ne.mpr c2
  by_cases c3 : a0 = 2
  ·rw [if_pos c3] at H
   have c3b0 : (a0 == 2) = true := beq_iff_eq.mpr c3
   have c3b1 : (a0 != 2) = false := bne_eq_false_iff_eq.mpr c3
   clear c3
   obtain rfl := Option.some.inj H
   go_enter Tryz.func65, Tryz.ntmps65
   go_wp2
   go_ret
   exact ⟨by first | rfl | (simp; done) | (simp [*]; done), by repeat (first | exact qy.refl _ | apply qy.step)⟩
  ·rw [if_neg c3] at H
   have c3b0 : (a0 == 2) = false := beq_eq_false_iff_ne.mpr c3
   have c3b1 : (a0 != 2) = true := bne_iff_ne.mpr c3
   by_cases c4 : a0 = 4
   ·rw [if_pos c4] at H
    have c4b0 : (a0 == 4) = true := beq_iff_eq.mpr c4
    have c4b1 : (a0 != 4) = false := bne_eq_false_iff_eq.mpr c4
    clear c4
    obtain rfl := Option.some.inj H
    go_enter Tryz.func65, Tryz.ntmps65
    go_wp2
    go_ret
    exact ⟨by first | rfl | (simp; done) | (simp [*]; done), by repeat (first | exact qy.refl _ | apply qy.step)⟩
   ·rw [if_neg c4] at H
    have c4b0 : (a0 == 4) = false := beq_eq_false_iff_ne.mpr c4
    have c4b1 : (a0 != 4) = true := bne_iff_ne.mpr c4
    by_cases c5 : a0 = 7
    ·rw [if_pos c5] at H
     have c5b0 : (a0 == 7) = true := beq_iff_eq.mpr c5
     have c5b1 : (a0 != 7) = false := bne_eq_false_iff_eq.mpr c5
     clear c5
     obtain rfl := Option.some.inj H
     go_enter Tryz.func65, Tryz.ntmps65
     go_wp2
     go_ret
     exact ⟨by first | rfl | (simp; done) | (simp [*]; done), by repeat (first | exact qy.refl _ | apply qy.step)⟩
    ·rw [if_neg c5] at H
     have c5b0 : (a0 == 7) = false := beq_eq_false_iff_ne.mpr c5
     have c5b1 : (a0 != 7) = true := bne_iff_ne.mpr c5
     obtain rfl := Option.some.inj H
     go_enter Tryz.func65, Tryz.ntmps65
     go_wp2
     go_ret
     exact ⟨by first | rfl | (simp; done) | (simp [*]; done), by repeat (first | exact qy.refl _ | apply qy.step)⟩
def strings_Cut.f (a0 a1 : ByteArray) : Option (ByteArray × ByteArray × Bool) := if a0.size < 4294967281 then some (⟨(Lib.cut a0.data.toList a1.data.toList).1.toArray⟩, ⟨(Lib.cut a0.data.toList a1.data.toList).2.1.toArray⟩, (Lib.cut a0.data.toList a1.data.toList).2.2) else none
theorem strings_Cut.calls (a0 : ByteArray) (a1 : ByteArray) (r1 : ByteArray) (r2 : ByteArray) (r3 : Bool) (w : World) (hG : LibHeld w) (h : strings_Cut.f a0 a1 = some (r1, r2, r3)) :
  Calls Tryz.prog 114 #[.string a0, .string a1] w fun e w' => e = .returned (.tuple #[.string r1, .string r2, .bool r3]) ∧ Below w.heap.size w w' := by
 unfold strings_Cut.f at h
 split at h
 ·rename_i hc
  obtain ⟨rfl, rfl, rfl⟩ := (by simpa using h : _ ∧ _ ∧ _)
  obtain ⟨m, hm⟩ := hG.maxLen
  refine (Tryz.strings_Cut a0 a1 m w hc hm).mono fun e w' ⟨he, n, hw⟩ => ⟨he, ?_⟩
  rw [hw]
  exact qa (Below.refl _ _) n
 ·exact absurd h y7
def strings_Contains.f (a0 a1 : ByteArray) : Option Bool := if a0.size < 4294967281 then some (Lib.contains a0.data.toList a1.data.toList) else none
theorem strings_Contains.calls (a0 : ByteArray) (a1 : ByteArray) (r : Bool) (w : World) (hG : LibHeld w) (h : strings_Contains.f a0 a1 = some r) :
  Calls Tryz.prog 133 #[.string a0, .string a1] w fun e w' => e = .returned (.bool r) ∧ Below w.heap.size w w' := by
 unfold strings_Contains.f at h
 split at h
 ·rename_i hc
  obtain rfl := Option.some.inj h
  obtain ⟨m, hm⟩ := hG.maxLen
  refine (Tryz.strings_Contains a0 a1 m w hc hm).mono fun e w' ⟨he, hw⟩ => ⟨he, ?_⟩
  rw [hw]
  exact Below.refl _ _
 ·exact absurd h y7
def xv.f (a0 : Int) : Option (Bool) := if a0 ≥ 97 then (if a0 ≤ 122 then (some true) else (if a0 ≥ 65 then (some (decide (a0 ≤ 90))) else (some false))) else (if a0 ≥ 65 then (some (decide (a0 ≤ 90))) else (some false))
set_option maxHeartbeats 8000000 in
set_option maxRecDepth 100000 in
theorem xv.calls (a0 : Int) (r : Bool) (w : World) (h : xv.f a0 = some r) :
  Calls Tryz.prog 140 #[.int .u8 a0] w fun e w' => e = .returned (.bool r) ∧ qy w w' := by
 have H : (if a0 ≥ 97 then (if a0 ≤ 122 then (some true) else (if a0 ≥ 65 then (some (decide (a0 ≤ 90))) else (some false))) else (if a0 ≥ 65 then (some (decide (a0 ≤ 90))) else (some false))) = some r := h
 clear h
 by_cases c2 : a0 ≥ 97
 ·rw [if_pos c2] at H
  have c2b0 : decide (97 ≤ a0) = true := decide_eq_true c2
  clear c2
  by_cases c3 : a0 ≤ 122
  ·rw [if_pos c3] at H
   have c3b0 : decide (a0 ≤ 122) = true := decide_eq_true c3
   clear c3
   obtain rfl := Option.some.inj H
   go_enter Tryz.func140, Tryz.ntmps140
   go_wp2
   go_ret
   exact ⟨by first | rfl | (simp; done) | (simp [*]; done), by repeat (first | exact qy.refl _ | apply qy.step)⟩
  ·rw [if_neg c3] at H
   have c3b0 : decide (a0 ≤ 122) = false := decide_eq_false c3
   clear c3
   by_cases c4 : a0 ≥ 65
   ·rw [if_pos c4] at H
    have c4b0 : decide (65 ≤ a0) = true := decide_eq_true c4
    clear c4
    obtain rfl := Option.some.inj H
    go_enter Tryz.func140, Tryz.ntmps140
    go_wp2
    go_ret
    exact ⟨by first | rfl | (simp; done) | (simp [*]; done), by repeat (first | exact qy.refl _ | apply qy.step)⟩
   ·rw [if_neg c4] at H
    have c4b0 : decide (65 ≤ a0) = false := decide_eq_false c4
    clear c4
    obtain rfl := Option.some.inj H
    go_enter Tryz.func140, Tryz.ntmps140
    go_wp2
    go_ret
    exact ⟨by first | rfl | (simp; done) | (simp [*]; done), by repeat (first | exact qy.refl _ | apply qy.step)⟩
 ·rw [if_neg c2] at H
  have c2b0 : decide (97 ≤ a0) = false := decide_eq_false c2
  clear c2
  by_cases c5 : a0 ≥ 65
  ·rw [if_pos c5] at H
   have c5b0 : decide (65 ≤ a0) = true := decide_eq_true c5
   clear c5
   obtain rfl := Option.some.inj H
   go_enter Tryz.func140, Tryz.ntmps140
   go_wp2
   go_ret
   exact ⟨by first | rfl | (simp; done) | (simp [*]; done), by repeat (first | exact qy.refl _ | apply qy.step)⟩
  ·rw [if_neg c5] at H
   have c5b0 : decide (65 ≤ a0) = false := decide_eq_false c5
   clear c5
   obtain rfl := Option.some.inj H
   go_enter Tryz.func140, Tryz.ntmps140
   go_wp2
   go_ret
   exact ⟨by first | rfl | (simp; done) | (simp [*]; done), by repeat (first | exact qy.refl _ | apply qy.step)⟩
def xt.f (a0 : Int) : Option (Bool) := if a0 ≥ 48 then (some (decide (a0 ≤ 57))) else (some false)
set_option maxHeartbeats 8000000 in
set_option maxRecDepth 100000 in
theorem xt.calls (a0 : Int) (r : Bool) (w : World) (h : xt.f a0 = some r) :
  Calls Tryz.prog 141 #[.int .u8 a0] w fun e w' => e = .returned (.bool r) ∧ qy w w' := by
 have H : (if a0 ≥ 48 then (some (decide (a0 ≤ 57))) else (some false)) = some r := h
 clear h
 by_cases c2 : a0 ≥ 48
 ·rw [if_pos c2] at H
  have c2b0 : decide (48 ≤ a0) = true := decide_eq_true c2
  clear c2
  obtain rfl := Option.some.inj H
  go_enter Tryz.func141, Tryz.ntmps141
  go_wp2
  go_ret
  exact ⟨by first | rfl | (simp; done) | (simp [*]; done), by repeat (first | exact qy.refl _ | apply qy.step)⟩
 ·rw [if_neg c2] at H
  have c2b0 : decide (48 ≤ a0) = false := decide_eq_false c2
  clear c2
  obtain rfl := Option.some.inj H
  go_enter Tryz.func141, Tryz.ntmps141
  go_wp2
  go_ret
  exact ⟨by first | rfl | (simp; done) | (simp [*]; done), by repeat (first | exact qy.refl _ | apply qy.step)⟩
def strings_IndexByte.f (a0 : ByteArray) (a1 : Int) : Option Int := some (Lib.indexByte a0.data.toList a1.toNat.toUInt8)
theorem strings_IndexByte.calls (a0 : ByteArray) (a1 : Int) (r : Int) (w : World) (h : strings_IndexByte.f a0 a1 = some r) :
  Calls Tryz.prog 142 #[.string a0, .int .u8 a1] w fun e w' => e = .returned (.int .i64 r) ∧ qy w w' := by
 obtain rfl := Option.some.inj h
 exact (Tryz.strings_IndexByte a0 a1 w).mono fun e w' ⟨he, hw⟩ => ⟨he, hw ▸ qy.refl _⟩
end Go.Proofs.YtlamfnaoemingaaGreatDoor.C
end
section
namespace Go.Proofs.YtlamfnaoemingaaGreatDoor.C
open Go.RowKit Go.Proofs.YtlamfnaoemingaaGreatDoorW.PrintWords Go.Proofs.YtlamfnaoemingaaGreatDoorW.PrintLast Go.Proofs.YtlamfnaoemingaaGreatDoorW.PrintMore
attribute [local go_sem] zw zx xe xd zn zp zy zz
set_option linter.unusedVariables false
set_option linter.unusedSimpArgs false
mutual
def qt.j0 : Nat → ByteArray → Bool → Option (Bool)
 | 0, _, _ => none
 | k + 1, x0, x30 => if x30 = true then (some false) else (if x0.size ≤ 9223372036854775807 then ((some (bytesOf x0 : List Int)).bind fun y111 => (qt.l0 k y111 (y111.length : Int) 0)) else (none))
def qt.l0 : Nat → List Int → Int → Int → Option (Bool)
 | 0, _, _, _ => none
 | k + 1, x32, x33, x34 => if x34 < x33 then (if 0 ≤ x34 then (if x34 < (x32.length : Int) then ((xv.f (rd x32 x34)).bind fun t115 => (if t115 = true then (qt.j2 k true x32 x33 x34) else ((xt.f (rd x32 x34)).bind fun t116 => (if t116 = true then (qt.j2 k true x32 x33 x34) else ((strings_IndexByte.f (⟨#[33, 35, 36, 37, 38, 39, 42, 43, 45, 47, 61, 63, 94, 95, 96, 123, 124, 125, 126, 46]⟩ : ByteArray) (rd x32 x34)).bind fun t117 => (qt.j2 k (decide (t117 ≥ 0)) x32 x33 x34)))))) else (none)) else (none)) else (some true)
def qt.j2 : Nat → Bool → List Int → Int → Int → Option (Bool)
 | 0, _, _, _, _ => none
 | k + 1, x5, x32, x33, x34 => if x5 = true then (qt.l0 k x32 x33 (wrap64 (x34 + 1))) else (some false)
end
def qt.f (k : Nat) (a0 : ByteArray) : Option (Bool) := if (a0.size : Int) < 1 then (qt.j0 k a0 true) else (if (a0.size : Int) > 64 then (qt.j0 k a0 true) else (if 0 < (a0.size : Int) then (if (bt a0 0) = 46 then (qt.j0 k a0 true) else (if 0 ≤ (wrap64 ((a0.size : Int) - 1)) then (if (wrap64 ((a0.size : Int) - 1)) < (a0.size : Int) then (if (bt a0 (wrap64 ((a0.size : Int) - 1))) = 46 then (qt.j0 k a0 true) else ((strings_Contains.f a0 (⟨#[46, 46]⟩ : ByteArray)).bind fun t110 => (qt.j0 k a0 t110))) else (none)) else (none))) else (none)))
theorem qt.zv : ∀ k, (∀ y0 y1, LeO (qt.j0 k y0 y1) (qt.j0 (k + 1) y0 y1)) ∧ (∀ y0 y1 y2, LeO (qt.l0 k y0 y1 y2) (qt.l0 (k + 1) y0 y1 y2)) ∧ (∀ y0 y1 y2 y3, LeO (qt.j2 k y0 y1 y2 y3) (qt.j2 (k + 1) y0 y1 y2 y3))
 | 0 => ⟨fun _ _ r h => by simp [qt.j0] at h, fun _ _ _ r h => by simp [qt.l0] at h, fun _ _ _ _ r h => by simp [qt.j2] at h⟩
 | k + 1 => by
  obtain ⟨ih0, ih1, ih2⟩ := qt.zv k
  refine ⟨?_, ?_, ?_⟩
  ·intro y0 y1
   unfold qt.j0
   repeat' first
   | (with_reducible exact ih0 _ _)
   | (with_reducible exact ih1 _ _ _)
   | (with_reducible exact ih2 _ _ _ _)
   | (with_reducible exact LeO.refl _)
   | (with_reducible exact LeO.none _)
   | (with_reducible refine LeO.ite ?_ ?_)
   | (with_reducible refine LeO.bind ?_ (fun _ => ?_))
  ·intro y0 y1 y2
   unfold qt.l0
   repeat' first
   | (with_reducible exact ih0 _ _)
   | (with_reducible exact ih1 _ _ _)
   | (with_reducible exact ih2 _ _ _ _)
   | (with_reducible exact LeO.refl _)
   | (with_reducible exact LeO.none _)
   | (with_reducible refine LeO.ite ?_ ?_)
   | (with_reducible refine LeO.bind ?_ (fun _ => ?_))
  ·intro y0 y1 y2 y3
   unfold qt.j2
   repeat' first
   | (with_reducible exact ih0 _ _)
   | (with_reducible exact ih1 _ _ _)
   | (with_reducible exact ih2 _ _ _ _)
   | (with_reducible exact LeO.refl _)
   | (with_reducible exact LeO.none _)
   | (with_reducible refine LeO.ite ?_ ?_)
   | (with_reducible refine LeO.bind ?_ (fun _ => ?_))
theorem qt.mono : ∀ a0 k, LeO (qt.f k a0) (qt.f (k + 1) a0) := by
 intro a0 k
 obtain ⟨ih0, ih1, ih2⟩ := qt.zv k
 unfold qt.f
 repeat' first
   | (with_reducible exact ih0 _ _)
   | (with_reducible exact ih1 _ _ _)
   | (with_reducible exact ih2 _ _ _ _)
   | (with_reducible exact LeO.refl _)
   | (with_reducible exact LeO.none _)
   | (with_reducible refine LeO.ite ?_ ?_)
   | (with_reducible refine LeO.bind ?_ (fun _ => ?_))
set_option maxHeartbeats 8000000 in
set_option maxRecDepth 100000 in
theorem qt.calls (k : Nat) (a0 : ByteArray) (r : Bool) (w : World) (hG : LibHeld w) (h : qt.f k a0 = some r) :
  Calls Tryz.prog 115 #[.string a0] w fun e w' => e = .returned (.bool r) ∧ Below w.heap.size w w' := by
 have HG := qd.mk hG
 clear hG
 have HB := qd.mk (Below.refl w.heap.size w)
 have H : (if (a0.size : Int) < 1 then (qt.j0 k a0 true) else (if (a0.size : Int) > 64 then (qt.j0 k a0 true) else (if 0 < (a0.size : Int) then (if (bt a0 0) = 46 then (qt.j0 k a0 true) else (if 0 ≤ (wrap64 ((a0.size : Int) - 1)) then (if (wrap64 ((a0.size : Int) - 1)) < (a0.size : Int) then (if (bt a0 (wrap64 ((a0.size : Int) - 1))) = 46 then (qt.j0 k a0 true) else ((strings_Contains.f a0 (⟨#[46, 46]⟩ : ByteArray)).bind fun t110 => (qt.j0 k a0 t110))) else (none)) else (none))) else (none)))) = some r := h
 clear h
 have HC2 := qd.mk H
 clear H
 go_enter Tryz.func115, Tryz.ntmps115
 go_upto_region 1 with (fail)
 go_cut [30] (fun v30 wc => ∃ (kq : Nat) (x30_1 : Bool), v30 = .bool x30_1 ∧ qd (qt.j0 kq a0 x30_1 = some r) ∧ qd (kq ≤ k) ∧ qd (Below w.heap.size w wc))
 case first =>
  have H := HC2.out
  clear HC2
  by_cases c3 : (a0.size : Int) < 1
  ·rw [if_pos c3] at H
   have c3b0 : decide ((a0.size : Int) < 1) = true := decide_eq_true c3
   have c3b1 : decide (a0.size < 1) = true := decide_eq_true yo
   clear c3
   (first | rw [c3b0] | (simp only [zg, zi]; rw [c3b0]) | skip)
   have H' := qd.mk H
   clear H
   go_wp2
   go_meet
   case rel => exact ⟨_, (true), yf, H', ⟨by first | omega | exact Nat.le_refl _⟩, ⟨by repeat (first | (with_reducible first | exact HB.out | apply qb | apply qa | apply qc) | exact HB.out)⟩⟩
  ·rw [if_neg c3] at H
   have c3b0 : decide ((a0.size : Int) < 1) = false := decide_eq_false c3
   have c3b1 : decide (a0.size < 1) = false := decide_eq_false yo
   clear c3
   (first | rw [c3b0] | (simp only [zg, zi]; rw [c3b0]) | skip)
   by_cases c4 : (a0.size : Int) > 64
   ·rw [if_pos c4] at H
    have c4b0 : decide (64 < (a0.size : Int)) = true := decide_eq_true c4
    have c4b1 : decide (64 < a0.size) = true := decide_eq_true yo
    clear c4
    have H' := qd.mk H
    clear H
    go_wp2
    go_meet
    case rel => exact ⟨_, (true), yf, H', ⟨by first | omega | exact Nat.le_refl _⟩, ⟨by repeat (first | (with_reducible first | exact HB.out | apply qb | apply qa | apply qc) | exact HB.out)⟩⟩
   ·rw [if_neg c4] at H
    have c4b0 : decide (64 < (a0.size : Int)) = false := decide_eq_false c4
    have c4b1 : decide (64 < a0.size) = false := decide_eq_false yo
    clear c4
    by_cases c5 : 0 < (a0.size : Int)
    ·rw [if_pos c5] at H
     have c5b0 : decide (0 < (a0.size : Int)) = true := decide_eq_true c5
     have c5b1 : decide (0 < a0.size) = true := decide_eq_true yo
     clear c5
     by_cases c7 : (bt a0 0) = 46
     ·rw [if_pos c7] at H
      have c7b0 : ((bt a0 0) == 46) = true := beq_iff_eq.mpr c7
      have c7b1 : ((bt a0 0) != 46) = false := bne_eq_false_iff_eq.mpr c7
      clear c7
      have H' := qd.mk H
      clear H
      have p6 : 0 ≤ (0 : Int) := yo
      have q6 : 0 < a0.size := (by have : (0 : Int) < (a0.size : Int) := of_decide_eq_true yc; omega)
      have hx6 : ∀ h : 0 < a0.size, ((a0[0]'h).toNat : Int) = bt a0 0 := bt_at a0 0
      clear p6
      have qi6 : (0 < (a0.size : Int)) = True := eq_true (of_decide_eq_true yc)
      replace q6 := eq_true q6
      go_wp2
      go_meet
      case rel => exact ⟨_, (true), yf, H', ⟨by first | omega | exact Nat.le_refl _⟩, ⟨by repeat (first | (with_reducible first | exact HB.out | apply qb | apply qa | apply qc) | exact HB.out)⟩⟩
     ·rw [if_neg c7] at H
      have c7b0 : ((bt a0 0) == 46) = false := beq_eq_false_iff_ne.mpr c7
      have c7b1 : ((bt a0 0) != 46) = true := bne_iff_ne.mpr c7
      obtain ⟨ji8, hji8⟩ : ∃ j_ : Int, (wrap64 ((a0.size : Int) - 1)) = j_ := ⟨_, rfl⟩
      replace H : (if 0 ≤ (ji8) then (if (ji8) < (a0.size : Int) then (if (bt a0 (ji8)) = 46 then (qt.j0 k a0 true) else ((strings_Contains.f a0 (⟨#[46, 46]⟩ : ByteArray)).bind fun t110 => (qt.j0 k a0 t110))) else (none)) else (none)) = some r := by first | (rw [hji8] at H; exact H) | (simp only [hji8] at H ⊢; exact H)
      have hji8w : (IntKind.i64.wrap ((a0.size : Int) - 1)) = ji8 := (zg _).trans hji8
      by_cases c9 : 0 ≤ (ji8)
      ·rw [if_pos c9] at H
       have c9b0 : decide (0 ≤ (ji8)) = true := decide_eq_true c9
       clear c9
       by_cases c10 : (ji8) < (a0.size : Int)
       ·rw [if_pos c10] at H
        have c10b0 : decide ((ji8) < (a0.size : Int)) = true := decide_eq_true c10
        clear c10
        by_cases c12 : (bt a0 (ji8)) = 46
        ·rw [if_pos c12] at H
         have c12b0 : ((bt a0 (ji8)) == 46) = true := beq_iff_eq.mpr c12
         have c12b1 : ((bt a0 (ji8)) != 46) = false := bne_eq_false_iff_eq.mpr c12
         clear c12
         have H' := qd.mk H
         clear H
         have p6 : 0 ≤ (0 : Int) := yo
         have q6 : 0 < a0.size := (by have : (0 : Int) < (a0.size : Int) := of_decide_eq_true yc; omega)
         have hx6 : ∀ h : 0 < a0.size, ((a0[0]'h).toNat : Int) = bt a0 0 := bt_at a0 0
         clear p6
         have qi6 : (0 < (a0.size : Int)) = True := eq_true (of_decide_eq_true yc)
         replace q6 := eq_true q6
         have p11 : 0 ≤ ((ji8) : Int) := of_decide_eq_true yc
         have q11 : (ji8) < (a0.size : Int) := of_decide_eq_true yc
         have hx11 := bt_at a0 (ji8)
         replace p11 := eq_true p11
         replace q11 := eq_true q11
         go_wp2
         go_meet
         case rel => exact ⟨_, (true), yf, H', ⟨by first | omega | exact Nat.le_refl _⟩, ⟨by repeat (first | (with_reducible first | exact HB.out | apply qb | apply qa | apply qc) | exact HB.out)⟩⟩
        ·rw [if_neg c12] at H
         have c12b0 : ((bt a0 (ji8)) == 46) = false := beq_eq_false_iff_ne.mpr c12
         have c12b1 : ((bt a0 (ji8)) != 46) = true := bne_iff_ne.mpr c12
         replace H := Option.bind_eq_some_iff.mp H
         obtain ⟨t110, A130, H⟩ := H
         replace H : (qt.j0 k a0 t110) = some r := H
         have A13 := qd.mk A130
         clear A130
         have H' := qd.mk H
         clear H
         have p6 : 0 ≤ (0 : Int) := yo
         have q6 : 0 < a0.size := (by have : (0 : Int) < (a0.size : Int) := of_decide_eq_true yc; omega)
         have hx6 : ∀ h : 0 < a0.size, ((a0[0]'h).toNat : Int) = bt a0 0 := bt_at a0 0
         clear p6
         have qi6 : (0 < (a0.size : Int)) = True := eq_true (of_decide_eq_true yc)
         replace q6 := eq_true q6
         have p11 : 0 ≤ ((ji8) : Int) := of_decide_eq_true yc
         have q11 : (ji8) < (a0.size : Int) := of_decide_eq_true yc
         have hx11 := bt_at a0 (ji8)
         replace p11 := eq_true p11
         replace q11 := eq_true q11
         go_wp2_with (first | (go_at_call 133; (with_reducible refine (strings_Contains.calls a0 (⟨#[46, 46]⟩ : ByteArray) t110 _ ?side1 A13.out).mono ?_); (case side1 => exact LibHeld.below HG.out cu); rintro e w14 ⟨rfl, hb⟩; have n0_ := qd.mk (qf cu hb); clear HB; have HB := n0_; clear n0_; (try clear hb); (try clear hb2); (try clear hk); (try clear hi)))
         go_meet
         case rel => exact ⟨_, (t110), yf, H', ⟨by first | omega | exact Nat.le_refl _⟩, ⟨by repeat (first | (with_reducible first | exact HB.out | apply qb | apply qa | apply qc) | exact HB.out)⟩⟩
       ·rw [if_neg c10] at H
        exact absurd H y7
      ·rw [if_neg c9] at H
       exact absurd H y7
    ·rw [if_neg c5] at H
     exact absurd H y7
 case rest =>
  clear HC2
  (try clear c1); (try clear p1); (try clear q1); (try clear hx1); (try clear p2); (try clear c3); (try clear c3b0); (try clear c3b1); (try clear c4); (try clear c4b0); (try clear c4b1); try clear c5
  (try clear c5b0); (try clear c5b1); (try clear p6); (try clear q6); (try clear hx6); (try clear qi6); (try clear c7); (try clear c7b0); (try clear c7b1); (try clear c9); (try clear c9b0); try clear c10
  (try clear c10b0); (try clear c11); (try clear p11); (try clear q11); (try clear hx11); (try clear c12); (try clear c12b0); (try clear c12b1); (try clear p11); (try clear p6); (try clear q11); try clear q6
  obtain ⟨kq, x30_1, rfl, HA, HJ1, HB⟩ := hcut
  cases kq with
  | zero => exact absurd HA.out (by simp [qt.j0])
  | succ kj1 =>
   have H := HA.out
   clear HA
   simp only [qt.j0] at H
   by_cases c15 : x30_1 = true
   ·subst c15
    have H1 : (some false) = some r := by rw [if_pos rfl] at H; exact H
    clear H
    have H := H1
    clear H1
    obtain rfl := Option.some.inj H
    go_wp2
    go_ret
    exact ⟨by first | rfl | (simp [qi, qj] <;> rfl) | (simp [*, qi, qj] <;> rfl), by repeat (first | (with_reducible first | exact HB.out | apply qb | apply qa | apply qc) | exact HB.out)⟩
   ·replace c15 := Bool.eq_false_iff.mpr c15
    subst c15
    have H1 : (if a0.size ≤ 9223372036854775807 then ((some (bytesOf a0 : List Int)).bind fun y111 => (qt.l0 kj1 y111 (y111.length : Int) 0)) else (none)) = some r := by rw [if_neg (show ¬ (false = true) by decide)] at H; exact H
    clear H
    have H := H1
    clear H1
    by_cases c16 : a0.size ≤ 9223372036854775807
    ·rw [if_pos c16] at H
     have c16b0 := eq_true c16
     have c16b1 : decide (a0.size ≤ 9223372036854775807) = true := decide_eq_true c16
     try have c16b2 : (9223372036854775807 < a0.size) = False := eq_false (Nat.not_lt.2 c16)
     clear c16
     obtain ⟨y111, hy111⟩ : ∃ y_ : List Int, y_ = (bytesOf a0) := ⟨_, rfl⟩
     replace H : (qt.l0 kj1 y111 (y111.length : Int) 0) = some r := by first | (rw [hy111]; with_reducible exact H) | (have H2_ := (Option.bind_some _ _).symm.trans H; rw [hy111]; with_reducible exact H2_) | (have H2_ := (Option.bind_some _ _).symm.trans H; with_reducible exact H2_) | with_reducible exact H | (rw [hy111]; exact H) | exact H
     have Ny111 := qd.mk hy111
     clear hy111
     have H' := qd.mk H
     clear H
     go_wp2_with (first | ((with_reducible refine q8 (N := 32) rfl ?_); (try (refine gate_guard (by rfl) ?_; dsimp only)); refine Kd.V_conv _ 5 rfl (N := 32) rfl 9 97 _ rfl a0 rfl Tryz.underlying9 Tryz.underlying97 Tryz.underlying5 (ok := fun k_ => wc.heap.size ≤ k_) (Nat.le_refl _) (of_decide_eq_true yc) (Below.refl _ _) (Nat.le_refl _) ?_; intro v112 w17 ho18 hb hg_ hnew_; clear hg_ hnew_; (first | rw [← Ny111.out] at ho18 | (simp only [Int.reduceToNat] at ho18; rw [← Ny111.out] at ho18)); have n0_ := qd.mk (Kd.V_lower (Kd.V_mono (ok' := fun k_ => True) ho18 (fun k_ hk_ => trivial)) (qo cu)); have n1_ := qd.mk (qf cu hb); clear HB; have HO113 := n0_; have HB := n1_; clear n0_ n1_; clear hb ho18; obtain ⟨Ao19, co19, eo19⟩ := Kd.V_slice HO113.out; subst eo19))
     go_loopg [34] kj1 (fun kq v34 w' => ∃ (x34_2 : Int), v34 = .int .i64 x34_2 ∧ qd (qt.l0 kq y111 (y111.length : Int) x34_2 = some r) ∧ qd (kq ≤ kj1) ∧ qd (Kd.V (Kd.int .u8) 5 w' w.heap.size (fun _ => True) (.slice Ao19 y111.length co19) y111) ∧ qd (Below w.heap.size w w'))
     case atStart => exact ⟨(0), yf, H', ⟨Nat.le_refl _⟩, ⟨by (with_reducible repeat (first | apply Kd.xp | apply Kd.xq | apply Kd.xz)); exact HO113.out⟩, ⟨by repeat (first | (with_reducible first | exact HB.out | apply qb | apply qa | apply qc) | exact HB.out)⟩⟩
     case round =>
      clear H'
      (try clear c1); (try clear p1); (try clear q1); (try clear hx1); (try clear p2); (try clear c3); (try clear c3b0); (try clear c3b1); (try clear c4); (try clear c4b0); (try clear c4b1); try clear c5
      (try clear c5b0); (try clear c5b1); (try clear p6); (try clear q6); (try clear hx6); (try clear qi6); (try clear c7); (try clear c7b0); (try clear c7b1); (try clear c9); (try clear c9b0); try clear c10
      (try clear c10b0); (try clear c11); (try clear p11); (try clear q11); (try clear hx11); (try clear c12); (try clear c12b0); (try clear c12b1); (try clear c15); (try clear c16); try clear c16b0
      (try clear c16b1); (try clear c16b2); (try clear p1); (try clear p11); (try clear p2); (try clear p6); (try clear q1); (try clear q11); try clear q6
      obtain ⟨x34_2, rfl, HA, HK2, HO_32, HB⟩ := hrel
      cases gk with
      | zero => exact absurd HA.out (by simp [qt.l0])
      | succ k2 =>
       have H := HA.out
       clear HA
       simp only [qt.l0] at H
       by_cases c20 : x34_2 < (y111.length : Int)
       ·rw [if_pos c20] at H
        have c20b0 : decide (x34_2 < (y111.length : Int)) = true := decide_eq_true c20
        clear c20
        by_cases c21 : 0 ≤ x34_2
        ·rw [if_pos c21] at H
         have c21b0 : decide (0 ≤ x34_2) = true := decide_eq_true c21
         clear c21
         by_cases c22 : x34_2 < (y111.length : Int)
         ·rw [if_pos c22] at H
          have c22b0 : decide (x34_2 < (y111.length : Int)) = true := decide_eq_true c22
          clear c22
          have HC23 := qd.mk H
          clear H
          have p114 : 0 ≤ (x34_2 : Int) := of_decide_eq_true yc
          have q114 : x34_2 < (y111.length : Int) := of_decide_eq_true yc
          obtain ⟨ad114, e114, hx114_0⟩ := Kd.at_int (Kd.V_reads' HO_32.out).2.2 x34_2 p114 q114
          cases e114
          replace p114 := eq_true p114
          replace q114 := eq_true q114
          go_upto_block 2 with (fail)
          go_cut [5] (fun v5 wc => ∃ (kq : Nat) (x5_22 : Bool), v5 = .bool x5_22 ∧ qd (qt.j2 kq x5_22 y111 (y111.length : Int) x34_2 = some r) ∧ qd (kq ≤ k2) ∧ qd (Kd.V (Kd.int .u8) 5 wc w.heap.size (fun _ => True) (.slice (some ad114) y111.length co19) y111) ∧ qd (Below w.heap.size w wc))
          case first =>
           have H := HC23.out
           clear HC23
           replace H := Option.bind_eq_some_iff.mp H
           obtain ⟨t115, A240, H⟩ := H
           replace H : (if t115 = true then (qt.j2 k2 true y111 (y111.length : Int) x34_2) else ((xt.f (rd y111 x34_2)).bind fun t116 => (if t116 = true then (qt.j2 k2 true y111 (y111.length : Int) x34_2) else ((strings_IndexByte.f (⟨#[33, 35, 36, 37, 38, 39, 42, 43, 45, 47, 61, 63, 94, 95, 96, 123, 124, 125, 126, 46]⟩ : ByteArray) (rd y111 x34_2)).bind fun t117 => (qt.j2 k2 (decide (t117 ≥ 0)) y111 (y111.length : Int) x34_2))))) = some r := H
           have A24 := qd.mk A240
           clear A240
           by_cases c25 : t115 = true
           ·subst c25
            have H1 : (qt.j2 k2 true y111 (y111.length : Int) x34_2) = some r := by rw [if_pos rfl] at H; exact H
            clear H
            have H := H1
            clear H1
            have H' := qd.mk H
            clear H
            go_wp2_with (first | ((with_reducible refine qp (f := 140) rfl ?_); refine za (some 40) rfl rfl Tryz.func140 yg rfl #[.int .u8 (rd y111 x34_2)] rfl cz ?_; (with_reducible refine (xv.calls (rd y111 x34_2) true _ A24.out).mono ?_); rintro e w' ⟨rfl, ⟨nd, rfl⟩⟩; refine ⟨_, rfl, ?_⟩))
            go_meet
            case rel => exact ⟨_, (true), yf, H', ⟨by have := HJ1.out; have := HK2.out; first | omega | exact Nat.le_refl _⟩, ⟨by (with_reducible repeat (first | apply Kd.xp | apply Kd.xq | apply Kd.xz)); exact HO_32.out⟩, ⟨by repeat (first | (with_reducible first | exact HB.out | apply qb | apply qa | apply qc) | exact HB.out)⟩⟩
           ·replace c25 := Bool.eq_false_iff.mpr c25
            subst c25
            have H1 : ((xt.f (rd y111 x34_2)).bind fun t116 => (if t116 = true then (qt.j2 k2 true y111 (y111.length : Int) x34_2) else ((strings_IndexByte.f (⟨#[33, 35, 36, 37, 38, 39, 42, 43, 45, 47, 61, 63, 94, 95, 96, 123, 124, 125, 126, 46]⟩ : ByteArray) (rd y111 x34_2)).bind fun t117 => (qt.j2 k2 (decide (t117 ≥ 0)) y111 (y111.length : Int) x34_2)))) = some r := by rw [if_neg (show ¬ (false = true) by decide)] at H; exact H
            clear H
            have H := H1
            clear H1
            replace H := Option.bind_eq_some_iff.mp H
            obtain ⟨t116, A260, H⟩ := H
            replace H : (if t116 = true then (qt.j2 k2 true y111 (y111.length : Int) x34_2) else ((strings_IndexByte.f (⟨#[33, 35, 36, 37, 38, 39, 42, 43, 45, 47, 61, 63, 94, 95, 96, 123, 124, 125, 126, 46]⟩ : ByteArray) (rd y111 x34_2)).bind fun t117 => (qt.j2 k2 (decide (t117 ≥ 0)) y111 (y111.length : Int) x34_2))) = some r := H
            have A26 := qd.mk A260
            clear A260
            by_cases c27 : t116 = true
            ·subst c27
             have H1 : (qt.j2 k2 true y111 (y111.length : Int) x34_2) = some r := by rw [if_pos rfl] at H; exact H
             clear H
             have H := H1
             clear H1
             have H' := qd.mk H
             clear H
             go_wp2_with (first | ((with_reducible refine qp (f := 140) rfl ?_); refine za (some 40) rfl rfl Tryz.func140 yg rfl #[.int .u8 (rd y111 x34_2)] rfl cz ?_; (with_reducible refine (xv.calls (rd y111 x34_2) false _ A24.out).mono ?_); rintro e w' ⟨rfl, ⟨nd, rfl⟩⟩; refine ⟨_, rfl, ?_⟩) | ((with_reducible refine qp (f := 141) rfl ?_); refine za (some 43) rfl rfl Tryz.func141 yg rfl #[.int .u8 (rd y111 x34_2)] rfl cz ?_; (with_reducible refine (xt.calls (rd y111 x34_2) true _ A26.out).mono ?_); rintro e w' ⟨rfl, ⟨nd, rfl⟩⟩; refine ⟨_, rfl, ?_⟩))
             go_meet
             case rel => exact ⟨_, (true), yf, H', ⟨by have := HJ1.out; have := HK2.out; first | omega | exact Nat.le_refl _⟩, ⟨by (with_reducible repeat (first | apply Kd.xp | apply Kd.xq | apply Kd.xz)); exact HO_32.out⟩, ⟨by repeat (first | (with_reducible first | exact HB.out | apply qb | apply qa | apply qc) | exact HB.out)⟩⟩
            ·replace c27 := Bool.eq_false_iff.mpr c27
             subst c27
             have H1 : ((strings_IndexByte.f (⟨#[33, 35, 36, 37, 38, 39, 42, 43, 45, 47, 61, 63, 94, 95, 96, 123, 124, 125, 126, 46]⟩ : ByteArray) (rd y111 x34_2)).bind fun t117 => (qt.j2 k2 (decide (t117 ≥ 0)) y111 (y111.length : Int) x34_2)) = some r := by rw [if_neg (show ¬ (false = true) by decide)] at H; exact H
             clear H
             have H := H1
             clear H1
             replace H := Option.bind_eq_some_iff.mp H
             obtain ⟨t117, A280, H⟩ := H
             replace H : (qt.j2 k2 (decide (t117 ≥ 0)) y111 (y111.length : Int) x34_2) = some r := H
             have A28 := qd.mk A280
             clear A280
             have H' := qd.mk H
             clear H
             go_wp2_with (first | ((with_reducible refine qp (f := 140) rfl ?_); refine za (some 40) rfl rfl Tryz.func140 yg rfl #[.int .u8 (rd y111 x34_2)] rfl cz ?_; (with_reducible refine (xv.calls (rd y111 x34_2) false _ A24.out).mono ?_); rintro e w' ⟨rfl, ⟨nd, rfl⟩⟩; refine ⟨_, rfl, ?_⟩) | ((with_reducible refine qp (f := 141) rfl ?_); refine za (some 43) rfl rfl Tryz.func141 yg rfl #[.int .u8 (rd y111 x34_2)] rfl cz ?_; (with_reducible refine (xt.calls (rd y111 x34_2) false _ A26.out).mono ?_); rintro e w' ⟨rfl, ⟨nd, rfl⟩⟩; refine ⟨_, rfl, ?_⟩) | ((with_reducible refine qp (f := 142) rfl ?_); refine za (some 45) rfl rfl Tryz.func142 yg rfl #[.string (⟨#[33, 35, 36, 37, 38, 39, 42, 43, 45, 47, 61, 63, 94, 95, 96, 123, 124, 125, 126, 46]⟩ : ByteArray), .int .u8 (rd y111 x34_2)] rfl cz ?_; (with_reducible refine (strings_IndexByte.calls (⟨#[33, 35, 36, 37, 38, 39, 42, 43, 45, 47, 61, 63, 94, 95, 96, 123, 124, 125, 126, 46]⟩ : ByteArray) (rd y111 x34_2) t117 _ A28.out).mono ?_); rintro e w' ⟨rfl, ⟨nd, rfl⟩⟩; refine ⟨_, rfl, ?_⟩))
             go_meet
             case rel => exact ⟨_, (decide (t117 ≥ 0)), yf, H', ⟨by have := HJ1.out; have := HK2.out; first | omega | exact Nat.le_refl _⟩, ⟨by (with_reducible repeat (first | apply Kd.xp | apply Kd.xq | apply Kd.xz)); exact HO_32.out⟩, ⟨by repeat (first | (with_reducible first | exact HB.out | apply qb | apply qa | apply qc) | exact HB.out)⟩⟩
          case rest =>
           clear HC23
           (try clear c1); (try clear p1); (try clear q1); (try clear hx1); (try clear c2); (try clear p2); (try clear c3); (try clear c3b0); (try clear c3b1); (try clear c4); try clear c4b0
           (try clear c4b1); (try clear c5); (try clear c5b0); (try clear c5b1); (try clear p6); (try clear q6); (try clear hx6); (try clear qi6); (try clear c7); (try clear c7b0); try clear c7b1
           (try clear c9); (try clear c9b0); (try clear c10); (try clear c10b0); (try clear c11); (try clear p11); (try clear q11); (try clear hx11); (try clear c12); (try clear c12b0); try clear c12b1
           (try clear c14); (try clear c15); (try clear c16); (try clear c16b0); (try clear c16b1); (try clear c16b2); (try clear c20); (try clear c20b0); (try clear c21); (try clear c21b0); try clear c22
           (try clear c22b0); (try clear c25); (try clear c27); (try clear hx114_0); (try clear p1); (try clear p11); (try clear p114); (try clear p2); (try clear p6); (try clear q1); try clear q11
           (try clear q114); try clear q6
           obtain ⟨kq, x5_22, rfl, HA, HJ22, HO_32, HB⟩ := hcut
           cases kq with
           | zero => exact absurd HA.out (by simp [qt.j2])
           | succ kj22 =>
            have H := HA.out
            clear HA
            simp only [qt.j2] at H
            by_cases c29 : x5_22 = true
            ·subst c29
             have H1 : (qt.l0 kj22 y111 (y111.length : Int) (wrap64 (x34_2 + 1))) = some r := by rw [if_pos rfl] at H; exact H
             clear H
             have H := H1
             clear H1
             have H' := qd.mk H
             clear H
             go_wp2
             go_roundg kj22
             case measure => have := HJ1.out; have := HK2.out; have := HJ22.out; omega
             case rel => exact ⟨(wrap64 (x34_2 + 1)), yf, H', ⟨by have := HJ1.out; have := HK2.out; have := HJ22.out; omega⟩, ⟨by (with_reducible repeat (first | apply Kd.xp | apply Kd.xq | apply Kd.xz)); exact HO_32.out⟩, ⟨by repeat (first | (with_reducible first | exact HB.out | apply qb | apply qa | apply qc) | exact HB.out)⟩⟩
            ·replace c29 := Bool.eq_false_iff.mpr c29
             subst c29
             have H1 : (some false) = some r := by rw [if_neg (show ¬ (false = true) by decide)] at H; exact H
             clear H
             have H := H1
             clear H1
             obtain rfl := Option.some.inj H
             go_wp2
             go_ret
             exact ⟨by first | rfl | (simp [qi, qj] <;> rfl) | (simp [*, qi, qj] <;> rfl), by repeat (first | (with_reducible first | exact HB.out | apply qb | apply qa | apply qc) | exact HB.out)⟩
         ·rw [if_neg c22] at H
          exact absurd H y7
        ·rw [if_neg c21] at H
         exact absurd H y7
       ·rw [if_neg c20] at H
        have c20b0 : decide (x34_2 < (y111.length : Int)) = false := decide_eq_false c20
        clear c20
        obtain rfl := Option.some.inj H
        go_wp2
        go_ret
        exact ⟨by first | rfl | (simp [qi, qj] <;> rfl) | (simp [*, qi, qj] <;> rfl), by repeat (first | (with_reducible first | exact HB.out | apply qb | apply qa | apply qc) | exact HB.out)⟩
    ·rw [if_neg c16] at H
     exact absurd H y7
end Go.Proofs.YtlamfnaoemingaaGreatDoor.C
end
section
namespace Go.Proofs.YtlamfnaoemingaaGreatDoor.C
open Go.RowKit Go.Proofs.YtlamfnaoemingaaGreatDoorW.PrintWords Go.Proofs.YtlamfnaoemingaaGreatDoorW.PrintLast Go.Proofs.YtlamfnaoemingaaGreatDoorW.PrintMore
attribute [local go_sem] zw zx xe xd zn zp zy zz
set_option linter.unusedVariables false
set_option linter.unusedSimpArgs false
def strings_Split.f (a0 a1 : ByteArray) : Option (List ByteArray) := if 1 ≤ a1.size ∧ a0.size < 4294967281 then some (Lib.splitB a1 0 (Lib.countB a0 a1) a0) else none
theorem strings_Split.calls (a0 : ByteArray) (a1 : ByteArray) (r : List ByteArray) (w : World) (hG : LibHeld w) (h : strings_Split.f a0 a1 = some r) :
  Calls Tryz.prog 143 #[.string a0, .string a1] w fun e w' => ∃ v0_ : Value, e = .returned (v0_) ∧ Kd.R Kd.string 9 w' w.heap.size (fun _ => True) v0_ r ∧ Below w.heap.size w w' := by
 unfold strings_Split.f at h
 split at h
 ·rename_i hc
  obtain rfl := Option.some.inj h
  obtain ⟨m, hm⟩ := hG.maxLen
  refine (Tryz.strings_Split a0 a1 m w hc.2 hm hc.1).mono fun e w' ⟨he, hw⟩ => ?_
  have hl := Lib.splitB_all a1 hc.1 0 _ a0 rfl
  subst hw
  refine ⟨_, he, Kd.R_strs w _ hl (by have := Lib.countB_le a1 hc.1 a0.size a0 (Nat.le_refl _); omega), qb (Below.refl _ _) _⟩
 ·exact absurd h y7
end Go.Proofs.YtlamfnaoemingaaGreatDoor.C
end
section
namespace Go.Proofs.YtlamfnaoemingaaGreatDoor.C
open Go.RowKit Go.Proofs.YtlamfnaoemingaaGreatDoorW.PrintWords Go.Proofs.YtlamfnaoemingaaGreatDoorW.PrintLast Go.Proofs.YtlamfnaoemingaaGreatDoorW.PrintMore
attribute [local go_sem] zw zx xe xd zn zp zy zz
set_option linter.unusedVariables false
set_option linter.unusedSimpArgs false
mutual
def qu.j0 : Nat → ByteArray → Bool → Option (Bool)
 | 0, _, _ => none
 | k + 1, x0, x25 => if x25 = true then (some false) else (if x0.size ≤ 9223372036854775807 then ((some (bytesOf x0 : List Int)).bind fun y118 => (qu.l0 k y118 (y118.length : Int) 0)) else (none))
def qu.l0 : Nat → List Int → Int → Int → Option (Bool)
 | 0, _, _, _ => none
 | k + 1, x27, x28, x29 => if x29 < x28 then (if 0 ≤ x29 then (if x29 < (x27.length : Int) then ((xv.f (rd x27 x29)).bind fun t122 => (if t122 = true then (qu.j2 k x27 x28 x29 false) else ((xt.f (rd x27 x29)).bind fun t123 => (if t123 = true then (qu.j2 k x27 x28 x29 false) else (qu.j2 k x27 x28 x29 ((rd x27 x29) != 45)))))) else (none)) else (none)) else (some true)
def qu.j2 : Nat → List Int → Int → Int → Bool → Option (Bool)
 | 0, _, _, _, _ => none
 | k + 1, x27, x28, x29, x44 => if x44 = true then (some false) else (qu.l0 k x27 x28 (wrap64 (x29 + 1)))
end
def qu.f (k : Nat) (a0 : ByteArray) : Option (Bool) := if (a0.size : Int) < 1 then (qu.j0 k a0 true) else (if (a0.size : Int) > 63 then (qu.j0 k a0 true) else (if 0 < (a0.size : Int) then (if (bt a0 0) = 45 then (qu.j0 k a0 true) else (if 0 ≤ (wrap64 ((a0.size : Int) - 1)) then (if (wrap64 ((a0.size : Int) - 1)) < (a0.size : Int) then (qu.j0 k a0 ((bt a0 (wrap64 ((a0.size : Int) - 1))) == 45)) else (none)) else (none))) else (none)))
theorem qu.zv : ∀ k, (∀ y0 y1, LeO (qu.j0 k y0 y1) (qu.j0 (k + 1) y0 y1)) ∧ (∀ y0 y1 y2, LeO (qu.l0 k y0 y1 y2) (qu.l0 (k + 1) y0 y1 y2)) ∧ (∀ y0 y1 y2 y3, LeO (qu.j2 k y0 y1 y2 y3) (qu.j2 (k + 1) y0 y1 y2 y3))
 | 0 => ⟨fun _ _ r h => by simp [qu.j0] at h, fun _ _ _ r h => by simp [qu.l0] at h, fun _ _ _ _ r h => by simp [qu.j2] at h⟩
 | k + 1 => by
  obtain ⟨ih0, ih1, ih2⟩ := qu.zv k
  refine ⟨?_, ?_, ?_⟩
  ·intro y0 y1
   unfold qu.j0
   repeat' first
   | (with_reducible exact ih0 _ _)
   | (with_reducible exact ih1 _ _ _)
   | (with_reducible exact ih2 _ _ _ _)
   | (with_reducible exact LeO.refl _)
   | (with_reducible exact LeO.none _)
   | (with_reducible refine LeO.ite ?_ ?_)
   | (with_reducible refine LeO.bind ?_ (fun _ => ?_))
  ·intro y0 y1 y2
   unfold qu.l0
   repeat' first
   | (with_reducible exact ih0 _ _)
   | (with_reducible exact ih1 _ _ _)
   | (with_reducible exact ih2 _ _ _ _)
   | (with_reducible exact LeO.refl _)
   | (with_reducible exact LeO.none _)
   | (with_reducible refine LeO.ite ?_ ?_)
   | (with_reducible refine LeO.bind ?_ (fun _ => ?_))
  ·intro y0 y1 y2 y3
   unfold qu.j2
   repeat' first
   | (with_reducible exact ih0 _ _)
   | (with_reducible exact ih1 _ _ _)
   | (with_reducible exact ih2 _ _ _ _)
   | (with_reducible exact LeO.refl _)
   | (with_reducible exact LeO.none _)
   | (with_reducible refine LeO.ite ?_ ?_)
   | (with_reducible refine LeO.bind ?_ (fun _ => ?_))
theorem qu.mono : ∀ a0 k, LeO (qu.f k a0) (qu.f (k + 1) a0) := by
 intro a0 k
 obtain ⟨ih0, ih1, ih2⟩ := qu.zv k
 unfold qu.f
 repeat' first
   | (with_reducible exact ih0 _ _)
   | (with_reducible exact ih1 _ _ _)
   | (with_reducible exact ih2 _ _ _ _)
   | (with_reducible exact LeO.refl _)
   | (with_reducible exact LeO.none _)
   | (with_reducible refine LeO.ite ?_ ?_)
   | (with_reducible refine LeO.bind ?_ (fun _ => ?_))
set_option maxHeartbeats 8000000 in
set_option maxRecDepth 100000 in
theorem qu.calls (k : Nat) (a0 : ByteArray) (r : Bool) (w : World) (h : qu.f k a0 = some r) :
  Calls Tryz.prog 144 #[.string a0] w fun e w' => e = .returned (.bool r) ∧ Below w.heap.size w w' := by
 have HB := qd.mk (Below.refl w.heap.size w)
 have H : (if (a0.size : Int) < 1 then (qu.j0 k a0 true) else (if (a0.size : Int) > 63 then (qu.j0 k a0 true) else (if 0 < (a0.size : Int) then (if (bt a0 0) = 45 then (qu.j0 k a0 true) else (if 0 ≤ (wrap64 ((a0.size : Int) - 1)) then (if (wrap64 ((a0.size : Int) - 1)) < (a0.size : Int) then (qu.j0 k a0 ((bt a0 (wrap64 ((a0.size : Int) - 1))) == 45)) else (none)) else (none))) else (none)))) = some r := h
 clear h
 have HC2 := qd.mk H
 clear H
 go_enter Tryz.func144, Tryz.ntmps144
 go_upto_region 1 with (fail)
 go_cut [25] (fun v25 wc => ∃ (kq : Nat) (x25_1 : Bool), v25 = .bool x25_1 ∧ qd (qu.j0 kq a0 x25_1 = some r) ∧ qd (kq ≤ k) ∧ qd (Below w.heap.size w wc))
 case first =>
  have H := HC2.out
  clear HC2
  by_cases c3 : (a0.size : Int) < 1
  ·rw [if_pos c3] at H
   have c3b0 : decide ((a0.size : Int) < 1) = true := decide_eq_true c3
   have c3b1 : decide (a0.size < 1) = true := decide_eq_true yo
   clear c3
   (first | rw [c3b0] | (simp only [zg, zi]; rw [c3b0]) | skip)
   have H' := qd.mk H
   clear H
   go_wp2
   go_meet
   case rel => exact ⟨_, (true), yf, H', ⟨by first | omega | exact Nat.le_refl _⟩, ⟨by repeat (first | (with_reducible first | exact HB.out | apply qb | apply qa | apply qc) | exact HB.out)⟩⟩
  ·rw [if_neg c3] at H
   have c3b0 : decide ((a0.size : Int) < 1) = false := decide_eq_false c3
   have c3b1 : decide (a0.size < 1) = false := decide_eq_false yo
   clear c3
   (first | rw [c3b0] | (simp only [zg, zi]; rw [c3b0]) | skip)
   by_cases c4 : (a0.size : Int) > 63
   ·rw [if_pos c4] at H
    have c4b0 : decide (63 < (a0.size : Int)) = true := decide_eq_true c4
    have c4b1 : decide (63 < a0.size) = true := decide_eq_true yo
    clear c4
    have H' := qd.mk H
    clear H
    go_wp2
    go_meet
    case rel => exact ⟨_, (true), yf, H', ⟨by first | omega | exact Nat.le_refl _⟩, ⟨by repeat (first | (with_reducible first | exact HB.out | apply qb | apply qa | apply qc) | exact HB.out)⟩⟩
   ·rw [if_neg c4] at H
    have c4b0 : decide (63 < (a0.size : Int)) = false := decide_eq_false c4
    have c4b1 : decide (63 < a0.size) = false := decide_eq_false yo
    clear c4
    by_cases c5 : 0 < (a0.size : Int)
    ·rw [if_pos c5] at H
     have c5b0 : decide (0 < (a0.size : Int)) = true := decide_eq_true c5
     have c5b1 : decide (0 < a0.size) = true := decide_eq_true yo
     clear c5
     by_cases c7 : (bt a0 0) = 45
     ·rw [if_pos c7] at H
      have c7b0 : ((bt a0 0) == 45) = true := beq_iff_eq.mpr c7
      have c7b1 : ((bt a0 0) != 45) = false := bne_eq_false_iff_eq.mpr c7
      clear c7
      have H' := qd.mk H
      clear H
      have p6 : 0 ≤ (0 : Int) := yo
      have q6 : 0 < a0.size := (by have : (0 : Int) < (a0.size : Int) := of_decide_eq_true yc; omega)
      have hx6 : ∀ h : 0 < a0.size, ((a0[0]'h).toNat : Int) = bt a0 0 := bt_at a0 0
      clear p6
      have qi6 : (0 < (a0.size : Int)) = True := eq_true (of_decide_eq_true yc)
      replace q6 := eq_true q6
      go_wp2
      go_meet
      case rel => exact ⟨_, (true), yf, H', ⟨by first | omega | exact Nat.le_refl _⟩, ⟨by repeat (first | (with_reducible first | exact HB.out | apply qb | apply qa | apply qc) | exact HB.out)⟩⟩
     ·rw [if_neg c7] at H
      have c7b0 : ((bt a0 0) == 45) = false := beq_eq_false_iff_ne.mpr c7
      have c7b1 : ((bt a0 0) != 45) = true := bne_iff_ne.mpr c7
      obtain ⟨ji8, hji8⟩ : ∃ j_ : Int, (wrap64 ((a0.size : Int) - 1)) = j_ := ⟨_, rfl⟩
      replace H : (if 0 ≤ (ji8) then (if (ji8) < (a0.size : Int) then (qu.j0 k a0 ((bt a0 (ji8)) == 45)) else (none)) else (none)) = some r := by first | (rw [hji8] at H; exact H) | (simp only [hji8] at H ⊢; exact H)
      have hji8w : (IntKind.i64.wrap ((a0.size : Int) - 1)) = ji8 := (zg _).trans hji8
      by_cases c9 : 0 ≤ (ji8)
      ·rw [if_pos c9] at H
       have c9b0 : decide (0 ≤ (ji8)) = true := decide_eq_true c9
       clear c9
       by_cases c10 : (ji8) < (a0.size : Int)
       ·rw [if_pos c10] at H
        have c10b0 : decide ((ji8) < (a0.size : Int)) = true := decide_eq_true c10
        clear c10
        have H' := qd.mk H
        clear H
        have p6 : 0 ≤ (0 : Int) := yo
        have q6 : 0 < a0.size := (by have : (0 : Int) < (a0.size : Int) := of_decide_eq_true yc; omega)
        have hx6 : ∀ h : 0 < a0.size, ((a0[0]'h).toNat : Int) = bt a0 0 := bt_at a0 0
        clear p6
        have qi6 : (0 < (a0.size : Int)) = True := eq_true (of_decide_eq_true yc)
        replace q6 := eq_true q6
        have p11 : 0 ≤ ((ji8) : Int) := of_decide_eq_true yc
        have q11 : (ji8) < (a0.size : Int) := of_decide_eq_true yc
        have hx11 := bt_at a0 (ji8)
        replace p11 := eq_true p11
        replace q11 := eq_true q11
        go_wp2
        go_meet
        case rel => exact ⟨_, (((bt a0 (ji8)) == 45)), (by first | rfl | (simp; done) | (simp only [← hji8] <;> (first | rfl | simp)) | (simp [*]; done)), H', ⟨by first | omega | exact Nat.le_refl _⟩, ⟨by repeat (first | (with_reducible first | exact HB.out | apply qb | apply qa | apply qc) | exact HB.out)⟩⟩
       ·rw [if_neg c10] at H
        exact absurd H y7
      ·rw [if_neg c9] at H
       exact absurd H y7
    ·rw [if_neg c5] at H
     exact absurd H y7
 case rest =>
  clear HC2
  (try clear c1); (try clear p1); (try clear q1); (try clear hx1); (try clear p2); (try clear c3); (try clear c3b0); (try clear c3b1); (try clear c4); (try clear c4b0); (try clear c4b1); try clear c5
  (try clear c5b0); (try clear c5b1); (try clear p6); (try clear q6); (try clear hx6); (try clear qi6); (try clear c7); (try clear c7b0); (try clear c7b1); (try clear c9); (try clear c9b0); try clear c10
  (try clear c10b0); (try clear p11); (try clear q11); (try clear hx11); (try clear p11); (try clear p6); (try clear q11); try clear q6
  obtain ⟨kq, x25_1, rfl, HA, HJ1, HB⟩ := hcut
  cases kq with
  | zero => exact absurd HA.out (by simp [qu.j0])
  | succ kj1 =>
   have H := HA.out
   clear HA
   simp only [qu.j0] at H
   by_cases c12 : x25_1 = true
   ·subst c12
    have H1 : (some false) = some r := by rw [if_pos rfl] at H; exact H
    clear H
    have H := H1
    clear H1
    obtain rfl := Option.some.inj H
    go_wp2
    go_ret
    exact ⟨by first | rfl | (simp [qi, qj] <;> rfl) | (simp [*, qi, qj] <;> rfl), by repeat (first | (with_reducible first | exact HB.out | apply qb | apply qa | apply qc) | exact HB.out)⟩
   ·replace c12 := Bool.eq_false_iff.mpr c12
    subst c12
    have H1 : (if a0.size ≤ 9223372036854775807 then ((some (bytesOf a0 : List Int)).bind fun y118 => (qu.l0 kj1 y118 (y118.length : Int) 0)) else (none)) = some r := by rw [if_neg (show ¬ (false = true) by decide)] at H; exact H
    clear H
    have H := H1
    clear H1
    by_cases c13 : a0.size ≤ 9223372036854775807
    ·rw [if_pos c13] at H
     have c13b0 := eq_true c13
     have c13b1 : decide (a0.size ≤ 9223372036854775807) = true := decide_eq_true c13
     try have c13b2 : (9223372036854775807 < a0.size) = False := eq_false (Nat.not_lt.2 c13)
     clear c13
     obtain ⟨y118, hy118⟩ : ∃ y_ : List Int, y_ = (bytesOf a0) := ⟨_, rfl⟩
     replace H : (qu.l0 kj1 y118 (y118.length : Int) 0) = some r := by first | (rw [hy118]; with_reducible exact H) | (have H2_ := (Option.bind_some _ _).symm.trans H; rw [hy118]; with_reducible exact H2_) | (have H2_ := (Option.bind_some _ _).symm.trans H; with_reducible exact H2_) | with_reducible exact H | (rw [hy118]; exact H) | exact H
     have Ny118 := qd.mk hy118
     clear hy118
     have H' := qd.mk H
     clear H
     go_wp2_with (first | ((with_reducible refine q8 (N := 27) rfl ?_); (try (refine gate_guard (by rfl) ?_; dsimp only)); refine Kd.V_conv _ 5 rfl (N := 27) rfl 9 97 _ rfl a0 rfl Tryz.underlying9 Tryz.underlying97 Tryz.underlying5 (ok := fun k_ => wc.heap.size ≤ k_) (Nat.le_refl _) (of_decide_eq_true yc) (Below.refl _ _) (Nat.le_refl _) ?_; intro v119 w14 ho15 hb hg_ hnew_; clear hg_ hnew_; (first | rw [← Ny118.out] at ho15 | (simp only [Int.reduceToNat] at ho15; rw [← Ny118.out] at ho15)); have n0_ := qd.mk (Kd.V_lower (Kd.V_mono (ok' := fun k_ => True) ho15 (fun k_ hk_ => trivial)) (qo cu)); have n1_ := qd.mk (qf cu hb); clear HB; have HO120 := n0_; have HB := n1_; clear n0_ n1_; clear hb ho15; obtain ⟨Ao16, co16, eo16⟩ := Kd.V_slice HO120.out; subst eo16))
     go_loopg [29] kj1 (fun kq v29 w' => ∃ (x29_2 : Int), v29 = .int .i64 x29_2 ∧ qd (qu.l0 kq y118 (y118.length : Int) x29_2 = some r) ∧ qd (kq ≤ kj1) ∧ qd (Kd.V (Kd.int .u8) 5 w' w.heap.size (fun _ => True) (.slice Ao16 y118.length co16) y118) ∧ qd (Below w.heap.size w w'))
     case atStart => exact ⟨(0), yf, H', ⟨Nat.le_refl _⟩, ⟨by (with_reducible repeat (first | apply Kd.xp | apply Kd.xq | apply Kd.xz)); exact HO120.out⟩, ⟨by repeat (first | (with_reducible first | exact HB.out | apply qb | apply qa | apply qc) | exact HB.out)⟩⟩
     case round =>
      clear H'
      (try clear c1); (try clear p1); (try clear q1); (try clear hx1); (try clear p2); (try clear c3); (try clear c3b0); (try clear c3b1); (try clear c4); (try clear c4b0); (try clear c4b1); try clear c5
      (try clear c5b0); (try clear c5b1); (try clear p6); (try clear q6); (try clear hx6); (try clear qi6); (try clear c7); (try clear c7b0); (try clear c7b1); (try clear c9); (try clear c9b0); try clear c10
      (try clear c10b0); (try clear p11); (try clear q11); (try clear hx11); (try clear c12); (try clear c13); (try clear c13b0); (try clear c13b1); (try clear c13b2); (try clear c14); try clear p1
      (try clear p11); (try clear p2); (try clear p6); (try clear q1); (try clear q11); try clear q6
      obtain ⟨x29_2, rfl, HA, HK2, HO_27, HB⟩ := hrel
      cases gk with
      | zero => exact absurd HA.out (by simp [qu.l0])
      | succ k2 =>
       have H := HA.out
       clear HA
       simp only [qu.l0] at H
       by_cases c17 : x29_2 < (y118.length : Int)
       ·rw [if_pos c17] at H
        have c17b0 : decide (x29_2 < (y118.length : Int)) = true := decide_eq_true c17
        clear c17
        by_cases c18 : 0 ≤ x29_2
        ·rw [if_pos c18] at H
         have c18b0 : decide (0 ≤ x29_2) = true := decide_eq_true c18
         clear c18
         by_cases c19 : x29_2 < (y118.length : Int)
         ·rw [if_pos c19] at H
          have c19b0 : decide (x29_2 < (y118.length : Int)) = true := decide_eq_true c19
          clear c19
          have HC20 := qd.mk H
          clear H
          have p121 : 0 ≤ (x29_2 : Int) := of_decide_eq_true yc
          have q121 : x29_2 < (y118.length : Int) := of_decide_eq_true yc
          obtain ⟨ad121, e121, hx121_0⟩ := Kd.at_int (Kd.V_reads' HO_27.out).2.2 x29_2 p121 q121
          cases e121
          replace p121 := eq_true p121
          replace q121 := eq_true q121
          go_upto_region 6 with (fail)
          go_cut [44] (fun v44 wc => ∃ (kq : Nat) (x44_19 : Bool), v44 = .bool x44_19 ∧ qd (qu.j2 kq y118 (y118.length : Int) x29_2 x44_19 = some r) ∧ qd (kq ≤ k2) ∧ qd (Kd.V (Kd.int .u8) 5 wc w.heap.size (fun _ => True) (.slice (some ad121) y118.length co16) y118) ∧ qd (Below w.heap.size w wc))
          case first =>
           have H := HC20.out
           clear HC20
           replace H := Option.bind_eq_some_iff.mp H
           obtain ⟨t122, A210, H⟩ := H
           replace H : (if t122 = true then (qu.j2 k2 y118 (y118.length : Int) x29_2 false) else ((xt.f (rd y118 x29_2)).bind fun t123 => (if t123 = true then (qu.j2 k2 y118 (y118.length : Int) x29_2 false) else (qu.j2 k2 y118 (y118.length : Int) x29_2 ((rd y118 x29_2) != 45))))) = some r := H
           have A21 := qd.mk A210
           clear A210
           by_cases c22 : t122 = true
           ·subst c22
            have H1 : (qu.j2 k2 y118 (y118.length : Int) x29_2 false) = some r := by rw [if_pos rfl] at H; exact H
            clear H
            have H := H1
            clear H1
            have H' := qd.mk H
            clear H
            go_wp2_with (first | ((with_reducible refine qp (f := 140) rfl ?_); refine za (some 34) rfl rfl Tryz.func140 yg rfl #[.int .u8 (rd y118 x29_2)] rfl cz ?_; (with_reducible refine (xv.calls (rd y118 x29_2) true _ A21.out).mono ?_); rintro e w' ⟨rfl, ⟨nd, rfl⟩⟩; refine ⟨_, rfl, ?_⟩))
            go_meet
            case rel => exact ⟨_, (false), yf, H', ⟨by have := HJ1.out; have := HK2.out; first | omega | exact Nat.le_refl _⟩, ⟨by (with_reducible repeat (first | apply Kd.xp | apply Kd.xq | apply Kd.xz)); exact HO_27.out⟩, ⟨by repeat (first | (with_reducible first | exact HB.out | apply qb | apply qa | apply qc) | exact HB.out)⟩⟩
           ·replace c22 := Bool.eq_false_iff.mpr c22
            subst c22
            have H1 : ((xt.f (rd y118 x29_2)).bind fun t123 => (if t123 = true then (qu.j2 k2 y118 (y118.length : Int) x29_2 false) else (qu.j2 k2 y118 (y118.length : Int) x29_2 ((rd y118 x29_2) != 45)))) = some r := by rw [if_neg (show ¬ (false = true) by decide)] at H; exact H
            clear H
            have H := H1
            clear H1
            replace H := Option.bind_eq_some_iff.mp H
            obtain ⟨t123, A230, H⟩ := H
            replace H : (if t123 = true then (qu.j2 k2 y118 (y118.length : Int) x29_2 false) else (qu.j2 k2 y118 (y118.length : Int) x29_2 ((rd y118 x29_2) != 45))) = some r := H
            have A23 := qd.mk A230
            clear A230
            by_cases c24 : t123 = true
            ·subst c24
             have H1 : (qu.j2 k2 y118 (y118.length : Int) x29_2 false) = some r := by rw [if_pos rfl] at H; exact H
             clear H
             have H := H1
             clear H1
             have H' := qd.mk H
             clear H
             go_wp2_with (first | ((with_reducible refine qp (f := 140) rfl ?_); refine za (some 34) rfl rfl Tryz.func140 yg rfl #[.int .u8 (rd y118 x29_2)] rfl cz ?_; (with_reducible refine (xv.calls (rd y118 x29_2) false _ A21.out).mono ?_); rintro e w' ⟨rfl, ⟨nd, rfl⟩⟩; refine ⟨_, rfl, ?_⟩) | (go_at_call 141; (with_reducible refine (xt.calls (rd y118 x29_2) true _ A23.out).mono ?_); rintro e w' ⟨rfl, ⟨nd, rfl⟩⟩))
             go_meet
             case rel => exact ⟨_, (false), yf, H', ⟨by have := HJ1.out; have := HK2.out; first | omega | exact Nat.le_refl _⟩, ⟨by (with_reducible repeat (first | apply Kd.xp | apply Kd.xq | apply Kd.xz)); exact HO_27.out⟩, ⟨by repeat (first | (with_reducible first | exact HB.out | apply qb | apply qa | apply qc) | exact HB.out)⟩⟩
            ·replace c24 := Bool.eq_false_iff.mpr c24
             subst c24
             have H1 : (qu.j2 k2 y118 (y118.length : Int) x29_2 ((rd y118 x29_2) != 45)) = some r := by rw [if_neg (show ¬ (false = true) by decide)] at H; exact H
             clear H
             have H := H1
             clear H1
             have H' := qd.mk H
             clear H
             go_wp2_with (first | ((with_reducible refine qp (f := 140) rfl ?_); refine za (some 34) rfl rfl Tryz.func140 yg rfl #[.int .u8 (rd y118 x29_2)] rfl cz ?_; (with_reducible refine (xv.calls (rd y118 x29_2) false _ A21.out).mono ?_); rintro e w' ⟨rfl, ⟨nd, rfl⟩⟩; refine ⟨_, rfl, ?_⟩) | (go_at_call 141; (with_reducible refine (xt.calls (rd y118 x29_2) false _ A23.out).mono ?_); rintro e w' ⟨rfl, ⟨nd, rfl⟩⟩))
             go_meet
             case rel => exact ⟨_, (((rd y118 x29_2) != 45)), yf, H', ⟨by have := HJ1.out; have := HK2.out; first | omega | exact Nat.le_refl _⟩, ⟨by (with_reducible repeat (first | apply Kd.xp | apply Kd.xq | apply Kd.xz)); exact HO_27.out⟩, ⟨by repeat (first | (with_reducible first | exact HB.out | apply qb | apply qa | apply qc) | exact HB.out)⟩⟩
          case rest =>
           clear HC20
           (try clear c1); (try clear p1); (try clear q1); (try clear hx1); (try clear c2); (try clear p2); (try clear c3); (try clear c3b0); (try clear c3b1); (try clear c4); try clear c4b0
           (try clear c4b1); (try clear c5); (try clear c5b0); (try clear c5b1); (try clear p6); (try clear q6); (try clear hx6); (try clear qi6); (try clear c7); (try clear c7b0); try clear c7b1
           (try clear c9); (try clear c9b0); (try clear c10); (try clear c10b0); (try clear p11); (try clear q11); (try clear hx11); (try clear c12); (try clear p12); (try clear q12); try clear hx12
           (try clear c13); (try clear c13b0); (try clear c13b1); (try clear c13b2); (try clear c14); (try clear c17); (try clear c17b0); (try clear c18); (try clear c18b0); (try clear c19); try clear c19b0
           (try clear c22); (try clear c24); (try clear hx121_0); (try clear p1); (try clear p11); (try clear p121); (try clear p2); (try clear p6); (try clear q1); (try clear q11); try clear q121
           try clear q6
           obtain ⟨kq, x44_19, rfl, HA, HJ19, HO_27, HB⟩ := hcut
           cases kq with
           | zero => exact absurd HA.out (by simp [qu.j2])
           | succ kj19 =>
            have H := HA.out
            clear HA
            simp only [qu.j2] at H
            by_cases c25 : x44_19 = true
            ·subst c25
             have H1 : (some false) = some r := by rw [if_pos rfl] at H; exact H
             clear H
             have H := H1
             clear H1
             obtain rfl := Option.some.inj H
             go_wp2
             go_ret
             exact ⟨by first | rfl | (simp [qi, qj] <;> rfl) | (simp [*, qi, qj] <;> rfl), by repeat (first | (with_reducible first | exact HB.out | apply qb | apply qa | apply qc) | exact HB.out)⟩
            ·replace c25 := Bool.eq_false_iff.mpr c25
             subst c25
             have H1 : (qu.l0 kj19 y118 (y118.length : Int) (wrap64 (x29_2 + 1))) = some r := by rw [if_neg (show ¬ (false = true) by decide)] at H; exact H
             clear H
             have H := H1
             clear H1
             have H' := qd.mk H
             clear H
             go_wp2
             go_roundg kj19
             case measure => have := HJ1.out; have := HK2.out; have := HJ19.out; omega
             case rel => exact ⟨(wrap64 (x29_2 + 1)), yf, H', ⟨by have := HJ1.out; have := HK2.out; have := HJ19.out; omega⟩, ⟨by (with_reducible repeat (first | apply Kd.xp | apply Kd.xq | apply Kd.xz)); exact HO_27.out⟩, ⟨by repeat (first | (with_reducible first | exact HB.out | apply qb | apply qa | apply qc) | exact HB.out)⟩⟩
         ·rw [if_neg c19] at H
          exact absurd H y7
        ·rw [if_neg c18] at H
         exact absurd H y7
       ·rw [if_neg c17] at H
        have c17b0 : decide (x29_2 < (y118.length : Int)) = false := decide_eq_false c17
        clear c17
        obtain rfl := Option.some.inj H
        go_wp2
        go_ret
        exact ⟨by first | rfl | (simp [qi, qj] <;> rfl) | (simp [*, qi, qj] <;> rfl), by repeat (first | (with_reducible first | exact HB.out | apply qb | apply qa | apply qc) | exact HB.out)⟩
    ·rw [if_neg c13] at H
     exact absurd H y7
end Go.Proofs.YtlamfnaoemingaaGreatDoor.C
end
section
namespace Go.Proofs.YtlamfnaoemingaaGreatDoor.C
open Go.RowKit Go.Proofs.YtlamfnaoemingaaGreatDoorW.PrintWords Go.Proofs.YtlamfnaoemingaaGreatDoorW.PrintLast Go.Proofs.YtlamfnaoemingaaGreatDoorW.PrintMore
attribute [local go_sem] zw zx xe xd zn zp zy zz
set_option linter.unusedVariables false
set_option linter.unusedSimpArgs false
def q3.l0 : Nat → List ByteArray → Int → Int → Option (Bool)
 | 0, _, _, _ => none
 | k + 1, x9, x10, x11 => if x11 < x10 then (if 0 ≤ x11 then (if x11 < (x9.length : Int) then ((qu.f k (rdOf ByteArray.empty x9 x11)).bind fun t128 => (if t128 = true then (q3.l0 k x9 x10 (wrap64 (x11 + 1))) else (some false))) else (none)) else (none)) else (some true)
def q3.f (k : Nat) (a0 : ByteArray) : Option (Bool) := if (a0.size : Int) > 128 then (some false) else ((strings_Split.f a0 (⟨#[46]⟩ : ByteArray)).bind fun t124 => (q3.l0 k t124 (t124.length : Int) 0))
theorem q3.zv : ∀ k, (∀ y0 y1 y2, LeO (q3.l0 k y0 y1 y2) (q3.l0 (k + 1) y0 y1 y2))
 | 0 => fun _ _ _ r h => by simp [q3.l0] at h
 | k + 1 => by
  have ih0 := q3.zv k
  ·intro y0 y1 y2
   unfold q3.l0
   repeat' first
   | (with_reducible exact ih0 _ _ _)
   | (with_reducible exact qu.mono _ _)
   | (with_reducible exact LeO.refl _)
   | (with_reducible exact LeO.none _)
   | (with_reducible refine LeO.ite ?_ ?_)
   | (with_reducible refine LeO.bind ?_ (fun _ => ?_))
theorem q3.mono : ∀ a0 k, LeO (q3.f k a0) (q3.f (k + 1) a0) := by
 intro a0 k
 have ih0 := q3.zv k
 unfold q3.f
 repeat' first
   | (with_reducible exact ih0 _ _ _)
   | (with_reducible exact qu.mono _ _)
   | (with_reducible exact LeO.refl _)
   | (with_reducible exact LeO.none _)
   | (with_reducible refine LeO.ite ?_ ?_)
   | (with_reducible refine LeO.bind ?_ (fun _ => ?_))
set_option maxHeartbeats 8000000 in
set_option maxRecDepth 100000 in
theorem q3.calls (k : Nat) (a0 : ByteArray) (r : Bool) (w : World) (hG : LibHeld w) (h : q3.f k a0 = some r) :
  Calls Tryz.prog 116 #[.string a0] w fun e w' => e = .returned (.bool r) ∧ Below w.heap.size w w' := by
 have HG := qd.mk hG
 clear hG
 have HB := qd.mk (Below.refl w.heap.size w)
 have H : (if (a0.size : Int) > 128 then (some false) else ((strings_Split.f a0 (⟨#[46]⟩ : ByteArray)).bind fun t124 => (q3.l0 k t124 (t124.length : Int) 0))) = some r := h
 clear h
 by_cases c2 : (a0.size : Int) > 128
 ·rw [if_pos c2] at H
  have c2b0 : decide (128 < (a0.size : Int)) = true := decide_eq_true c2
  have c2b1 : decide (128 < a0.size) = true := decide_eq_true yo
  clear c2
  obtain rfl := Option.some.inj H
  go_enter Tryz.func116, Tryz.ntmps116
  go_wp2
  go_ret
  exact ⟨by first | rfl | (simp [qi, qj] <;> rfl) | (simp [*, qi, qj] <;> rfl), by repeat (first | (with_reducible first | exact HB.out | apply qb | apply qa | apply qc) | exact HB.out)⟩
 ·rw [if_neg c2] at H
  have c2b0 : decide (128 < (a0.size : Int)) = false := decide_eq_false c2
  have c2b1 : decide (128 < a0.size) = false := decide_eq_false yo
  clear c2
  replace H := Option.bind_eq_some_iff.mp H
  obtain ⟨t124, A30, H⟩ := H
  replace H : (q3.l0 k t124 (t124.length : Int) 0) = some r := H
  have A3 := qd.mk A30
  clear A30
  have H' := qd.mk H
  clear H
  go_enter Tryz.func116, Tryz.ntmps116
  go_wp2_with (first | ((with_reducible refine qp (f := 143) rfl ?_); refine za (some 9) rfl rfl Tryz.func143 yg rfl #[.string a0, .string (⟨#[46]⟩ : ByteArray)] rfl cz ?_; (with_reducible refine (strings_Split.calls a0 (⟨#[46]⟩ : ByteArray) t124 _ ?side1 A3.out).mono ?_); (case side1 => exact LibHeld.below HG.out cu); rintro e w4 ⟨v125, rfl, ho0, hb⟩; refine ⟨_, rfl, ?_⟩; have n0_ := qd.mk (Kd.R_lower ho0 (qo cu)); have n1_ := qd.mk (qf cu hb); clear HB; have HO126 := n0_; have HB := n1_; clear n0_ n1_; (try clear hb); (try clear hb2); (try clear hk); (try clear hi); (try clear ho0); obtain ⟨Ao5, co5, eo5⟩ := Kd.R_slice HO126.out; subst eo5))
  go_loopg [11] k (fun kq v11 w' => ∃ (x11_1 : Int), v11 = .int .i64 x11_1 ∧ qd (q3.l0 kq t124 (t124.length : Int) x11_1 = some r) ∧ qd (kq ≤ k) ∧ qd (Kd.R Kd.string 9 w' w.heap.size (fun _ => True) (.slice Ao5 t124.length co5) t124) ∧ qd (Below w.heap.size w w'))
  case atStart => exact ⟨(0), yf, H', ⟨Nat.le_refl _⟩, ⟨by (with_reducible repeat (first | apply Kd.zq | apply Kd.zl | apply Kd.zt)); exact HO126.out⟩, ⟨by repeat (first | (with_reducible first | exact HB.out | apply qb | apply qa | apply qc) | exact HB.out)⟩⟩
  case round =>
   clear H'
   (try clear c1); (try clear c2); (try clear c2b0); (try clear c2b1); try clear p2
   obtain ⟨x11_1, rfl, HA, HK1, HO_9, HB⟩ := hrel
   cases gk with
   | zero => exact absurd HA.out (by simp [q3.l0])
   | succ k1 =>
    have H := HA.out
    clear HA
    simp only [q3.l0] at H
    by_cases c6 : x11_1 < (t124.length : Int)
    ·rw [if_pos c6] at H
     have c6b0 : decide (x11_1 < (t124.length : Int)) = true := decide_eq_true c6
     clear c6
     by_cases c7 : 0 ≤ x11_1
     ·rw [if_pos c7] at H
      have c7b0 : decide (0 ≤ x11_1) = true := decide_eq_true c7
      clear c7
      by_cases c8 : x11_1 < (t124.length : Int)
      ·rw [if_pos c8] at H
       have c8b0 : decide (x11_1 < (t124.length : Int)) = true := decide_eq_true c8
       clear c8
       replace H := Option.bind_eq_some_iff.mp H
       obtain ⟨t128, A90, H⟩ := H
       replace H : (if t128 = true then (q3.l0 k1 t124 (t124.length : Int) (wrap64 (x11_1 + 1))) else (some false)) = some r := H
       have A9 := qd.mk A90
       clear A90
       by_cases c10 : t128 = true
       ·subst c10
        have H1 : (q3.l0 k1 t124 (t124.length : Int) (wrap64 (x11_1 + 1))) = some r := by rw [if_pos rfl] at H; exact H
        clear H
        have H := H1
        clear H1
        have H' := qd.mk H
        clear H
        have p127 : 0 ≤ (x11_1 : Int) := of_decide_eq_true yc
        have q127 : x11_1 < (t124.length : Int) := of_decide_eq_true yc
        obtain ⟨ad127, e127, hx127_0⟩ := Kd.at_string (Kd.R_reads' HO_9.out).2.2 x11_1 p127 q127
        cases e127
        replace p127 := eq_true p127
        replace q127 := eq_true q127
        go_wp2_with (first | ((with_reducible refine qp (f := 144) rfl ?_); refine za (some 16) rfl rfl Tryz.func144 yg rfl #[.string (rdOf ByteArray.empty t124 x11_1)] rfl cz ?_; (with_reducible refine (qu.calls k1 (rdOf ByteArray.empty t124 x11_1) true _ A9.out).mono ?_); rintro e w11 ⟨rfl, hb⟩; refine ⟨_, rfl, ?_⟩; have n0_ := qd.mk (Kd.R_below (by (with_reducible repeat (first | apply Kd.zq | apply Kd.zl | apply Kd.zt)); exact HO_9.out) hb); have n1_ := qd.mk (qf cu hb); clear HO_9; clear HB; have HO_9 := n0_; have HB := n1_; clear n0_ n1_; (try clear hb); (try clear hb2); (try clear hk); (try clear hi)))
        go_roundg k1
        case measure => have := HK1.out; omega
        case rel => exact ⟨(wrap64 (x11_1 + 1)), yf, H', ⟨by have := HK1.out; omega⟩, ⟨by (with_reducible repeat (first | apply Kd.zq | apply Kd.zl | apply Kd.zt)); exact HO_9.out⟩, ⟨by repeat (first | (with_reducible first | exact HB.out | apply qb | apply qa | apply qc) | exact HB.out)⟩⟩
       ·replace c10 := Bool.eq_false_iff.mpr c10
        subst c10
        have H1 : (some false) = some r := by rw [if_neg (show ¬ (false = true) by decide)] at H; exact H
        clear H
        have H := H1
        clear H1
        obtain rfl := Option.some.inj H
        have p127 : 0 ≤ (x11_1 : Int) := of_decide_eq_true yc
        have q127 : x11_1 < (t124.length : Int) := of_decide_eq_true yc
        obtain ⟨ad127, e127, hx127_0⟩ := Kd.at_string (Kd.R_reads' HO_9.out).2.2 x11_1 p127 q127
        cases e127
        replace p127 := eq_true p127
        replace q127 := eq_true q127
        go_wp2_with (first | ((with_reducible refine qp (f := 144) rfl ?_); refine za (some 16) rfl rfl Tryz.func144 yg rfl #[.string (rdOf ByteArray.empty t124 x11_1)] rfl cz ?_; (with_reducible refine (qu.calls k1 (rdOf ByteArray.empty t124 x11_1) false _ A9.out).mono ?_); rintro e w12 ⟨rfl, hb⟩; refine ⟨_, rfl, ?_⟩; have n0_ := qd.mk (Kd.R_below (by (with_reducible repeat (first | apply Kd.zq | apply Kd.zl | apply Kd.zt)); exact HO_9.out) hb); have n1_ := qd.mk (qf cu hb); clear HO_9; clear HB; have HO_9 := n0_; have HB := n1_; clear n0_ n1_; (try clear hb); (try clear hb2); (try clear hk); (try clear hi)))
        go_ret
        exact ⟨by first | rfl | (simp [qi, qj] <;> rfl) | (simp [*, qi, qj] <;> rfl), by repeat (first | (with_reducible first | exact HB.out | apply qb | apply qa | apply qc) | exact HB.out)⟩
      ·rw [if_neg c8] at H
       exact absurd H y7
     ·rw [if_neg c7] at H
      exact absurd H y7
    ·rw [if_neg c6] at H
     have c6b0 : decide (x11_1 < (t124.length : Int)) = false := decide_eq_false c6
     clear c6
     obtain rfl := Option.some.inj H
     go_wp2
     go_ret
     exact ⟨by first | rfl | (simp [qi, qj] <;> rfl) | (simp [*, qi, qj] <;> rfl), by repeat (first | (with_reducible first | exact HB.out | apply qb | apply qa | apply qc) | exact HB.out)⟩
def q7.f (k : Nat) (a0 : ByteArray) : Option (Bool) := (strings_Cut.f a0 (⟨#[64]⟩ : ByteArray)).bind fun bt129 => (if bt129.2.2 = true then (if (a0.size : Int) ≤ 128 then ((qt.f k bt129.1).bind fun t132 => (if t132 = true then ((q3.f k bt129.2.1).bind fun t133 => (some t133)) else (some false))) else (some false)) else (some false))
theorem q7.mono : ∀ a0 k, LeO (q7.f k a0) (q7.f (k + 1) a0) := by
 intro a0 k
 unfold q7.f
 repeat' first
   | (with_reducible exact q3.mono _ _)
   | (with_reducible exact qt.mono _ _)
   | (with_reducible exact LeO.refl _)
   | (with_reducible exact LeO.none _)
   | (with_reducible refine LeO.ite ?_ ?_)
   | (with_reducible refine LeO.bind ?_ (fun _ => ?_))
set_option maxHeartbeats 8000000 in
set_option maxRecDepth 100000 in
theorem q7.calls (k : Nat) (a0 : ByteArray) (r : Bool) (w : World) (hG : LibHeld w) (h : q7.f k a0 = some r) :
  Calls Tryz.prog 75 #[.string a0] w fun e w' => e = .returned (.bool r) ∧ Below w.heap.size w w' := by
 have HG := qd.mk hG
 clear hG
 have HB := qd.mk (Below.refl w.heap.size w)
 have H : ((strings_Cut.f a0 (⟨#[64]⟩ : ByteArray)).bind fun bt129 => (if bt129.2.2 = true then (if (a0.size : Int) ≤ 128 then ((qt.f k bt129.1).bind fun t132 => (if t132 = true then ((q3.f k bt129.2.1).bind fun t133 => (some t133)) else (some false))) else (some false)) else (some false))) = some r := h
 clear h
 replace H := Option.bind_eq_some_iff.mp H
 obtain ⟨⟨t129, t130, t131⟩, A20, H⟩ := H
 replace H : (if t131 = true then (if (a0.size : Int) ≤ 128 then ((qt.f k t129).bind fun t132 => (if t132 = true then ((q3.f k t130).bind fun t133 => (some t133)) else (some false))) else (some false)) else (some false)) = some r := H
 have A2 := qd.mk A20
 clear A20
 by_cases c3 : t131 = true
 ·subst c3
  have H1 : (if (a0.size : Int) ≤ 128 then ((qt.f k t129).bind fun t132 => (if t132 = true then ((q3.f k t130).bind fun t133 => (some t133)) else (some false))) else (some false)) = some r := by rw [if_pos rfl] at H; exact H
  clear H
  have H := H1
  clear H1
  by_cases c4 : (a0.size : Int) ≤ 128
  ·rw [if_pos c4] at H
   have c4b0 : decide ((a0.size : Int) ≤ 128) = true := decide_eq_true c4
   have c4b1 : decide (a0.size ≤ 128) = true := decide_eq_true yo
   clear c4
   replace H := Option.bind_eq_some_iff.mp H
   obtain ⟨t132, A50, H⟩ := H
   replace H : (if t132 = true then ((q3.f k t130).bind fun t133 => (some t133)) else (some false)) = some r := H
   have A5 := qd.mk A50
   clear A50
   by_cases c6 : t132 = true
   ·subst c6
    have H1 : ((q3.f k t130).bind fun t133 => (some t133)) = some r := by rw [if_pos rfl] at H; exact H
    clear H
    have H := H1
    clear H1
    replace H := Option.bind_eq_some_iff.mp H
    obtain ⟨t133, A70, H⟩ := H
    replace H : (some t133) = some r := H
    have A7 := qd.mk A70
    clear A70
    obtain rfl := Option.some.inj H
    go_enter Tryz.func75, Tryz.ntmps75
    go_wp2_with (first | ((with_reducible refine qp (f := 114) rfl ?_); refine za (some 8) rfl rfl Tryz.func114 yg rfl #[.string a0, .string (⟨#[64]⟩ : ByteArray)] rfl cz ?_; (with_reducible refine (strings_Cut.calls a0 (⟨#[64]⟩ : ByteArray) t129 t130 true _ ?side1 A2.out).mono ?_); (case side1 => exact LibHeld.below HG.out cu); rintro e w8 ⟨rfl, hb⟩; refine ⟨_, rfl, ?_⟩; have n0_ := qd.mk (qf cu hb); clear HB; have HB := n0_; clear n0_; (try clear hb); (try clear hb2); (try clear hk); (try clear hi)) | (go_at_call 115; (with_reducible refine (qt.calls k t129 true _ ?side1 A5.out).mono ?_); (case side1 => exact LibHeld.below HG.out cu); rintro e w9 ⟨rfl, hb⟩; have n0_ := qd.mk (qf cu hb); clear HB; have HB := n0_; clear n0_; (try clear hb); (try clear hb2); (try clear hk); (try clear hi)) | (go_at_call 116; (with_reducible refine (q3.calls k t130 t133 _ ?side1 A7.out).mono ?_); (case side1 => exact LibHeld.below HG.out cu); rintro e w10 ⟨rfl, hb⟩; have n0_ := qd.mk (qf cu hb); clear HB; have HB := n0_; clear n0_; (try clear hb); (try clear hb2); (try clear hk); (try clear hi)))
    go_ret
    exact ⟨by first | rfl | (simp [qi, qj] <;> rfl) | (simp [*, qi, qj] <;> rfl), by repeat (first | (with_reducible first | exact HB.out | apply qb | apply qa | apply qc) | exact HB.out)⟩
   ·replace c6 := Bool.eq_false_iff.mpr c6
    subst c6
    have H1 : (some false) = some r := by rw [if_neg (show ¬ (false = true) by decide)] at H; exact H
    clear H
    have H := H1
    clear H1
    obtain rfl := Option.some.inj H
    go_enter Tryz.func75, Tryz.ntmps75
    go_wp2_with (first | ((with_reducible refine qp (f := 114) rfl ?_); refine za (some 8) rfl rfl Tryz.func114 yg rfl #[.string a0, .string (⟨#[64]⟩ : ByteArray)] rfl cz ?_; (with_reducible refine (strings_Cut.calls a0 (⟨#[64]⟩ : ByteArray) t129 t130 true _ ?side1 A2.out).mono ?_); (case side1 => exact LibHeld.below HG.out cu); rintro e w11 ⟨rfl, hb⟩; refine ⟨_, rfl, ?_⟩; have n0_ := qd.mk (qf cu hb); clear HB; have HB := n0_; clear n0_; (try clear hb); (try clear hb2); (try clear hk); (try clear hi)) | (go_at_call 115; (with_reducible refine (qt.calls k t129 false _ ?side1 A5.out).mono ?_); (case side1 => exact LibHeld.below HG.out cu); rintro e w12 ⟨rfl, hb⟩; have n0_ := qd.mk (qf cu hb); clear HB; have HB := n0_; clear n0_; (try clear hb); (try clear hb2); (try clear hk); (try clear hi)))
    go_ret
    exact ⟨by first | rfl | (simp [qi, qj] <;> rfl) | (simp [*, qi, qj] <;> rfl), by repeat (first | (with_reducible first | exact HB.out | apply qb | apply qa | apply qc) | exact HB.out)⟩
  ·rw [if_neg c4] at H
   have c4b0 : decide ((a0.size : Int) ≤ 128) = false := decide_eq_false c4
   have c4b1 : decide (a0.size ≤ 128) = false := decide_eq_false yo
   clear c4
   obtain rfl := Option.some.inj H
   go_enter Tryz.func75, Tryz.ntmps75
   go_wp2_with (first | ((with_reducible refine qp (f := 114) rfl ?_); refine za (some 8) rfl rfl Tryz.func114 yg rfl #[.string a0, .string (⟨#[64]⟩ : ByteArray)] rfl cz ?_; (with_reducible refine (strings_Cut.calls a0 (⟨#[64]⟩ : ByteArray) t129 t130 true _ ?side1 A2.out).mono ?_); (case side1 => exact LibHeld.below HG.out cu); rintro e w13 ⟨rfl, hb⟩; refine ⟨_, rfl, ?_⟩; have n0_ := qd.mk (qf cu hb); clear HB; have HB := n0_; clear n0_; (try clear hb); (try clear hb2); (try clear hk); (try clear hi)))
   go_ret
   exact ⟨by first | rfl | (simp [qi, qj] <;> rfl) | (simp [*, qi, qj] <;> rfl), by repeat (first | (with_reducible first | exact HB.out | apply qb | apply qa | apply qc) | exact HB.out)⟩
 ·replace c3 := Bool.eq_false_iff.mpr c3
  subst c3
  have H1 : (some false) = some r := by rw [if_neg (show ¬ (false = true) by decide)] at H; exact H
  clear H
  have H := H1
  clear H1
  obtain rfl := Option.some.inj H
  go_enter Tryz.func75, Tryz.ntmps75
  go_wp2_with (first | ((with_reducible refine qp (f := 114) rfl ?_); refine za (some 8) rfl rfl Tryz.func114 yg rfl #[.string a0, .string (⟨#[64]⟩ : ByteArray)] rfl cz ?_; (with_reducible refine (strings_Cut.calls a0 (⟨#[64]⟩ : ByteArray) t129 t130 false _ ?side1 A2.out).mono ?_); (case side1 => exact LibHeld.below HG.out cu); rintro e w14 ⟨rfl, hb⟩; refine ⟨_, rfl, ?_⟩; have n0_ := qd.mk (qf cu hb); clear HB; have HB := n0_; clear n0_; (try clear hb); (try clear hb2); (try clear hk); (try clear hi)))
  go_ret
  exact ⟨by first | rfl | (simp [qi, qj] <;> rfl) | (simp [*, qi, qj] <;> rfl), by repeat (first | (with_reducible first | exact HB.out | apply qb | apply qa | apply qc) | exact HB.out)⟩
end Go.Proofs.YtlamfnaoemingaaGreatDoor.C
end
