/- Words, walks and plain laws that the claim rests on, gathered. -/
import Derived.Test.YthdoohfdminfgaaGreatDoorProg
import Derived.WalkSpells
import Derived.Below
import Derived.Deep.Draws
import Derived.Deep.AppendLies
import Derived.Maps.AppendAt
import Derived.OwnWalk
import Derived.Laws.BytesArg
import Derived.Laws.MakeOwn
import Derived.Laws.OwnMore
import Derived.Deep.OwnRows
import Derived.Tactics
import Derived.Lib.ConvBytes
import Derived.Laws.Slices
import Derived.WalkKit
import Derived.KernelRfl
import Derived.RowKit3
import Derived.Deep.LoopGhost
import Derived.Deep.QuietTactic
import Derived.BigQuiet
import Derived.WideLaws
import Derived.Deep.DeepCutAuto
import Derived.Deep.CutBlock
import Derived.Deep.RegionHeld3
import Derived.Laws.Rows
import Derived.Lib.AppendStr
import Derived.ArgAppend
import Derived.Laws.IdiomCopy
import Derived.OrdersHeld
import Derived.Laws.BitsLemmas
import Derived.RowKit
import Derived.WalkLawsBesides
import Derived.Shelf.Strings.Builder1
import Derived.Shelf.Strings.Builder2
import Derived.Shelf.Strings.OnBuilder
import Derived.Shelf.Small.Bits
import Derived.Shelf.Small.Strs
import Derived.Shelf.Strings.BuilderF
import Derived.Shelf.Strings.BuilderK
import Derived.Shelf.Utf8.RuneCount
import Derived.Shelf.Strings.Builder2Cap
import Derived.Shelf.Strconv.Itoa0
import Derived.Shelf.Strconv.Itoa1
import Derived.Shelf.LaysM
import Derived.Shelf.Strconv.Itoa2
import Derived.Shelf.Strconv.Itoa3
import Derived.Shelf.Strings.Search1
import Derived.Shelf.Strings.Search2
import Derived.Shelf.Strings.Search3
import Derived.Shelf.Strings.Cut
import Derived.Shelf.Strings.Count
import Derived.Shelf.Strings.Shaped
import Derived.Shelf.Sort.Plain
import Derived.Ground.GgsProg
import Derived.Shelf.GgSortFunc.Insertion
import Derived.Shelf.GgSortFunc.Small
import Derived.Shelf.GgSortFunc.InsertionK
import Derived.Shelf.GgSortFunc.SmallK
import Derived.Shelf.GgSortFunc.Tiny
import Derived.Shelf.GgSortFunc.Compose
import Derived.Shelf.GgSortFunc.LotD
import Derived.Shelf.GgSortFunc.Pivot
import Derived.Shelf.GgSortFunc.Partition
import Derived.Shelf.GgSortFunc.Pdq
import Derived.Shelf.GgSortFunc.Whole
import Derived.Shelf.Strings.Prefix
import Derived.Shelf.Strings.Split
import Derived.Shelf.Strings.SplitShaped
import Derived.Shelf.Unicode.Decode
import Derived.Shelf.Strings.RuneCount
import Derived.Shelf.Strings.Explode
import Derived.Shelf.Unicode.DecodeSlow
import Derived.Shelf.Unicode.DecodeAny
import Derived.Shelf.Strings.BuilderCap
import Derived.Shelf.Slices.In.SortNone
import Derived.Shelf.Slices.In.SortNone2
import Derived.Shelf.SlSortFunc.Xorshift
import Derived.Shelf.SlSortFuncK.ComposeK
import Derived.Shelf.SlSortFuncK.SiftDownK
import Derived.Shelf.SlSortFuncK.HeapSortK
import Derived.Shelf.SlSortFuncK.PartialInsertionK
import Derived.Shelf.SlSortFuncK.LotDK
import Derived.Shelf.SlSortFuncK.PivotK
import Derived.Shelf.SlSortFuncK.PartitionK
import Derived.Shelf.SlSortFunc.SiftDown
import Derived.Shelf.SlSortFunc.HeapSort
import Derived.Shelf.SlSortFunc.PartialInsertion
import Derived.Shelf.SlSortFuncK.PdqK
import Derived.Shelf.SlSortFuncK.WholeK
import Derived.Laws.StructEq
import Derived.Test.YthdoohfdminfgaaGreatDoorNK0
import Derived.Test.YthdoohfdminfgaaGreatDoorNK1
import Derived.Test.YthdoohfdminfgaaGreatDoorNK2
import Derived.Test.YthdoohfdminfgaaGreatDoorNKc
namespace Go.Proofs.YthdoohfdminfgaaGreatDoorW.PrintLast
end Go.Proofs.YthdoohfdminfgaaGreatDoorW.PrintLast
namespace Go.Proofs.YthdoohfdminfgaaGreatDoorW.PrintMore
end Go.Proofs.YthdoohfdminfgaaGreatDoorW.PrintMore
namespace Go.Proofs.YthdoohfdminfgaaGreatDoorW.PrintWords
end Go.Proofs.YthdoohfdminfgaaGreatDoorW.PrintWords
section
namespace Go.Proofs.YthdoohfdminfgaaGreatDoor.C
open Go.RowKit Go.Proofs.YthdoohfdminfgaaGreatDoorW.PrintWords Go.Proofs.YthdoohfdminfgaaGreatDoorW.PrintLast Go.Proofs.YthdoohfdminfgaaGreatDoorW.PrintMore
attribute [local go_sem] xa z7 xq xr zx zy xc z8
set_option linter.unusedVariables false
set_option linter.unusedSimpArgs false
def xn.f (k : Nat) (a0 : ByteArray) : Option Bool := (xk.f k a0).bind fun l => some (!l.isEmpty)
theorem xn.mono : ∀ a0 k, LeO (xn.f k a0) (xn.f (k + 1) a0) := by
 intro a0 k
 unfold xn.f
 exact LeO.bind (xk.mono a0 k) (fun _ => LeO.refl _)
theorem row_not_nil {w : World} {base e : Nat} {ok : Nat → Prop} {v : Value} {l : List Int} (h : Kd.R (Kd.int .i64) e w base ok v l) (hl : l ≠ []) : ∃ ad n c, v = .slice (some ad) n c := by
 obtain ⟨A, c, rfl⟩ := Kd.kj h
 have hc := (Kd.xp h).2.2
 obtain ⟨ad, rfl, _⟩ := hc.2.2 (List.length_pos_iff.2 hl)
 exact ⟨ad, _, _, rfl⟩
theorem xn.calls (k : Nat) (a0 : ByteArray) (r : Bool) (w : World) (hG : LibHeld w) (h : xn.f k a0 = some r) :
  Calls Tryz.prog 74 #[.string a0] w fun e w' => e = .returned (.bool r) ∧ Below w.heap.size w w' := by
 unfold xn.f at h
 obtain ⟨l, hl, h⟩ := Option.bind_eq_some_iff.1 h
 obtain rfl := Option.some.inj h
 clear h
 have HG := qa.mk hG
 have HL := qa.mk hl
 clear hG hl
 have hn := fun W a n c => run_neq_slice_nil_any (P := Tryz.prog) W 22 3 a n c 0 0 Tryz.underlying22
 rcases hz : l with _ | ⟨x, l'⟩
 ·have HZ := qa.mk hz
  clear hz
  go_enter Tryz.func74, Tryz.ntmps74
  go_wp2_with (go_at_call 100; refine (xk.calls k _ l _ HG.out HL.out).mono ?_; rintro e w' ⟨v, rfl, ho, hv, hb⟩; (have e_ := hv HZ.out; subst e_); clear ho hv; have HB := qa.mk hb; clear hb)
  go_ret
  exact ⟨rfl, HB.out⟩
 ·have HZ := qa.mk hz
  clear hz
  go_enter Tryz.func74, Tryz.ntmps74
  go_wp2_with (go_at_call 100; refine (xk.calls k _ l _ HG.out HL.out).mono ?_; rintro e w' ⟨v, rfl, ho, hv, hb⟩; (obtain ⟨ad, n, c, rfl⟩ := row_not_nil ho (by rw [HZ.out]; simp)); clear ho hv; have HB := qa.mk hb; clear hb)
  go_ret
  exact ⟨rfl, HB.out⟩
def kz.f (a0 : Int) : Option (Bool) := if a0 ≥ 97 then (if a0 ≤ 122 then (some true) else (if a0 ≥ 65 then (if a0 ≤ 90 then (some true) else (if a0 ≥ 48 then (some (decide (a0 ≤ 57))) else (some false))) else (if a0 ≥ 48 then (some (decide (a0 ≤ 57))) else (some false)))) else (if a0 ≥ 65 then (if a0 ≤ 90 then (some true) else (if a0 ≥ 48 then (some (decide (a0 ≤ 57))) else (some false))) else (if a0 ≥ 48 then (some (decide (a0 ≤ 57))) else (some false)))
set_option maxHeartbeats 8000000 in
set_option maxRecDepth 100000 in
theorem kz.calls (a0 : Int) (r : Bool) (w : World) (h : kz.f a0 = some r) :
  Calls Tryz.prog 105 #[.int .u8 a0] w fun e w' => e = .returned (.bool r) ∧ qx w w' := by
 have H : (if a0 ≥ 97 then (if a0 ≤ 122 then (some true) else (if a0 ≥ 65 then (if a0 ≤ 90 then (some true) else (if a0 ≥ 48 then (some (decide (a0 ≤ 57))) else (some false))) else (if a0 ≥ 48 then (some (decide (a0 ≤ 57))) else (some false)))) else (if a0 ≥ 65 then (if a0 ≤ 90 then (some true) else (if a0 ≥ 48 then (some (decide (a0 ≤ 57))) else (some false))) else (if a0 ≥ 48 then (some (decide (a0 ≤ 57))) else (some false)))) = some r := h
 clear h
 by_cases c2 : a0 ≥ 97
 ·rw [if_pos c2] at H
  have c2b0 : decide (97 ≤ a0) = true := decide_eq_true c2
  clear c2
  by_cases c3 : a0 ≤ 122
  ·rw [if_pos c3] at H
   have c3b0 : decide (a0 ≤ 122) = true := decide_eq_true c3
   clear c3
   obtain rfl := Option.some.inj H
   go_enter Tryz.func105, Tryz.ntmps105
   go_wp2
   go_ret
   exact ⟨by first | rfl | (simp; done) | (simp [*]; done), by repeat (first | exact qx.refl _ | apply qx.step)⟩
  ·rw [if_neg c3] at H
   have c3b0 : decide (a0 ≤ 122) = false := decide_eq_false c3
   clear c3
   by_cases c4 : a0 ≥ 65
   ·rw [if_pos c4] at H
    have c4b0 : decide (65 ≤ a0) = true := decide_eq_true c4
    clear c4
    by_cases c5 : a0 ≤ 90
    ·rw [if_pos c5] at H
     have c5b0 : decide (a0 ≤ 90) = true := decide_eq_true c5
     clear c5
     obtain rfl := Option.some.inj H
     go_enter Tryz.func105, Tryz.ntmps105
     go_wp2
     go_ret
     exact ⟨by first | rfl | (simp; done) | (simp [*]; done), by repeat (first | exact qx.refl _ | apply qx.step)⟩
    ·rw [if_neg c5] at H
     have c5b0 : decide (a0 ≤ 90) = false := decide_eq_false c5
     clear c5
     by_cases c6 : a0 ≥ 48
     ·rw [if_pos c6] at H
      have c6b0 : decide (48 ≤ a0) = true := decide_eq_true c6
      clear c6
      obtain rfl := Option.some.inj H
      go_enter Tryz.func105, Tryz.ntmps105
      go_wp2
      go_ret
      exact ⟨by first | rfl | (simp; done) | (simp [*]; done), by repeat (first | exact qx.refl _ | apply qx.step)⟩
     ·rw [if_neg c6] at H
      have c6b0 : decide (48 ≤ a0) = false := decide_eq_false c6
      clear c6
      obtain rfl := Option.some.inj H
      go_enter Tryz.func105, Tryz.ntmps105
      go_wp2
      go_ret
      exact ⟨by first | rfl | (simp; done) | (simp [*]; done), by repeat (first | exact qx.refl _ | apply qx.step)⟩
   ·rw [if_neg c4] at H
    have c4b0 : decide (65 ≤ a0) = false := decide_eq_false c4
    clear c4
    by_cases c7 : a0 ≥ 48
    ·rw [if_pos c7] at H
     have c7b0 : decide (48 ≤ a0) = true := decide_eq_true c7
     clear c7
     obtain rfl := Option.some.inj H
     go_enter Tryz.func105, Tryz.ntmps105
     go_wp2
     go_ret
     exact ⟨by first | rfl | (simp; done) | (simp [*]; done), by repeat (first | exact qx.refl _ | apply qx.step)⟩
    ·rw [if_neg c7] at H
     have c7b0 : decide (48 ≤ a0) = false := decide_eq_false c7
     clear c7
     obtain rfl := Option.some.inj H
     go_enter Tryz.func105, Tryz.ntmps105
     go_wp2
     go_ret
     exact ⟨by first | rfl | (simp; done) | (simp [*]; done), by repeat (first | exact qx.refl _ | apply qx.step)⟩
 ·rw [if_neg c2] at H
  have c2b0 : decide (97 ≤ a0) = false := decide_eq_false c2
  clear c2
  by_cases c8 : a0 ≥ 65
  ·rw [if_pos c8] at H
   have c8b0 : decide (65 ≤ a0) = true := decide_eq_true c8
   clear c8
   by_cases c9 : a0 ≤ 90
   ·rw [if_pos c9] at H
    have c9b0 : decide (a0 ≤ 90) = true := decide_eq_true c9
    clear c9
    obtain rfl := Option.some.inj H
    go_enter Tryz.func105, Tryz.ntmps105
    go_wp2
    go_ret
    exact ⟨by first | rfl | (simp; done) | (simp [*]; done), by repeat (first | exact qx.refl _ | apply qx.step)⟩
   ·rw [if_neg c9] at H
    have c9b0 : decide (a0 ≤ 90) = false := decide_eq_false c9
    clear c9
    by_cases c10 : a0 ≥ 48
    ·rw [if_pos c10] at H
     have c10b0 : decide (48 ≤ a0) = true := decide_eq_true c10
     clear c10
     obtain rfl := Option.some.inj H
     go_enter Tryz.func105, Tryz.ntmps105
     go_wp2
     go_ret
     exact ⟨by first | rfl | (simp; done) | (simp [*]; done), by repeat (first | exact qx.refl _ | apply qx.step)⟩
    ·rw [if_neg c10] at H
     have c10b0 : decide (48 ≤ a0) = false := decide_eq_false c10
     clear c10
     obtain rfl := Option.some.inj H
     go_enter Tryz.func105, Tryz.ntmps105
     go_wp2
     go_ret
     exact ⟨by first | rfl | (simp; done) | (simp [*]; done), by repeat (first | exact qx.refl _ | apply qx.step)⟩
  ·rw [if_neg c8] at H
   have c8b0 : decide (65 ≤ a0) = false := decide_eq_false c8
   clear c8
   by_cases c11 : a0 ≥ 48
   ·rw [if_pos c11] at H
    have c11b0 : decide (48 ≤ a0) = true := decide_eq_true c11
    clear c11
    obtain rfl := Option.some.inj H
    go_enter Tryz.func105, Tryz.ntmps105
    go_wp2
    go_ret
    exact ⟨by first | rfl | (simp; done) | (simp [*]; done), by repeat (first | exact qx.refl _ | apply qx.step)⟩
   ·rw [if_neg c11] at H
    have c11b0 : decide (48 ≤ a0) = false := decide_eq_false c11
    clear c11
    obtain rfl := Option.some.inj H
    go_enter Tryz.func105, Tryz.ntmps105
    go_wp2
    go_ret
    exact ⟨by first | rfl | (simp; done) | (simp [*]; done), by repeat (first | exact qx.refl _ | apply qx.step)⟩
def strings_IndexByte.f (a0 : ByteArray) (a1 : Int) : Option Int := some (Lib.indexByte a0.data.toList a1.toNat.toUInt8)
theorem strings_IndexByte.calls (a0 : ByteArray) (a1 : Int) (r : Int) (w : World) (h : strings_IndexByte.f a0 a1 = some r) :
  Calls Tryz.prog 106 #[.string a0, .int .u8 a1] w fun e w' => e = .returned (.int .i64 r) ∧ qx w w' := by
 obtain rfl := Option.some.inj h
 exact (Tryz.strings_IndexByte a0 a1 w).mono fun e w' ⟨he, hw⟩ => ⟨he, hw ▸ qx.refl _⟩
def text_Valid_1.f (a0 : Int) : Option (Bool) := (kz.f a0).bind fun t112 => (if t112 = true then (some true) else ((strings_IndexByte.f (⟨#[32, 39, 40, 41, 43, 44, 45, 46, 47, 58, 61, 63]⟩ : ByteArray) a0).bind fun t113 => (some (decide (t113 ≥ 0)))))
set_option maxHeartbeats 8000000 in
set_option maxRecDepth 100000 in
theorem text_Valid_1.calls (a0 : Int) (r : Bool) (w : World) (h : text_Valid_1.f a0 = some r) :
  Calls Tryz.prog 104 #[.int .u8 a0] w fun e w' => e = .returned (.bool r) ∧ qx w w' := by
 have H : ((kz.f a0).bind fun t112 => (if t112 = true then (some true) else ((strings_IndexByte.f (⟨#[32, 39, 40, 41, 43, 44, 45, 46, 47, 58, 61, 63]⟩ : ByteArray) a0).bind fun t113 => (some (decide (t113 ≥ 0)))))) = some r := h
 clear h
 replace H := Option.bind_eq_some_iff.mp H
 obtain ⟨t112, A20, H⟩ := H
 replace H : (if t112 = true then (some true) else ((strings_IndexByte.f (⟨#[32, 39, 40, 41, 43, 44, 45, 46, 47, 58, 61, 63]⟩ : ByteArray) a0).bind fun t113 => (some (decide (t113 ≥ 0))))) = some r := H
 have A2 := qa.mk A20
 clear A20
 by_cases c3 : t112 = true
 ·subst c3
  have H1 : (some true) = some r := by rw [if_pos rfl] at H; exact H
  clear H
  have H := H1
  clear H1
  obtain rfl := Option.some.inj H
  go_enter Tryz.func104, Tryz.ntmps104
  go_wp2_with (first | ((with_reducible refine zn (f := 105) rfl ?_); refine kd (some 4) rfl rfl Tryz.func105 yj rfl #[.int .u8 a0] rfl yc ?_; (with_reducible refine (kz.calls a0 true _ A2.out).mono ?_); rintro e w' ⟨rfl, ⟨nd, rfl⟩⟩; refine ⟨_, rfl, ?_⟩))
  go_ret
  exact ⟨by first | rfl | (simp; done) | (simp [*]; done), by repeat (first | exact qx.refl _ | apply qx.step)⟩
 ·replace c3 := Bool.eq_false_iff.mpr c3
  subst c3
  have H1 : ((strings_IndexByte.f (⟨#[32, 39, 40, 41, 43, 44, 45, 46, 47, 58, 61, 63]⟩ : ByteArray) a0).bind fun t113 => (some (decide (t113 ≥ 0)))) = some r := by rw [if_neg (show ¬ (false = true) by decide)] at H; exact H
  clear H
  have H := H1
  clear H1
  replace H := Option.bind_eq_some_iff.mp H
  obtain ⟨t113, A40, H⟩ := H
  replace H : (some (decide (t113 ≥ 0))) = some r := H
  have A4 := qa.mk A40
  clear A40
  obtain rfl := Option.some.inj H
  go_enter Tryz.func104, Tryz.ntmps104
  go_wp2_with (first | ((with_reducible refine zn (f := 105) rfl ?_); refine kd (some 4) rfl rfl Tryz.func105 yj rfl #[.int .u8 a0] rfl yc ?_; (with_reducible refine (kz.calls a0 false _ A2.out).mono ?_); rintro e w' ⟨rfl, ⟨nd, rfl⟩⟩; refine ⟨_, rfl, ?_⟩) | (go_at_call 106; (with_reducible refine (strings_IndexByte.calls (⟨#[32, 39, 40, 41, 43, 44, 45, 46, 47, 58, 61, 63]⟩ : ByteArray) a0 t113 _ A4.out).mono ?_); rintro e w' ⟨rfl, ⟨nd, rfl⟩⟩))
  go_ret
  exact ⟨by first | rfl | (simp; done) | (simp [*]; done), by repeat (first | exact qx.refl _ | apply qx.step)⟩
def text_Valid_2.f (a0 : Int) : Option (Bool) := if a0 ≥ 32 then (some (decide (a0 ≤ 126))) else (some false)
set_option maxHeartbeats 8000000 in
set_option maxRecDepth 100000 in
theorem text_Valid_2.calls (a0 : Int) (r : Bool) (w : World) (h : text_Valid_2.f a0 = some r) :
  Calls Tryz.prog 107 #[.int .u8 a0] w fun e w' => e = .returned (.bool r) ∧ qx w w' := by
 have H : (if a0 ≥ 32 then (some (decide (a0 ≤ 126))) else (some false)) = some r := h
 clear h
 by_cases c2 : a0 ≥ 32
 ·rw [if_pos c2] at H
  have c2b0 : decide (32 ≤ a0) = true := decide_eq_true c2
  clear c2
  obtain rfl := Option.some.inj H
  go_enter Tryz.func107, Tryz.ntmps107
  go_wp2
  go_ret
  exact ⟨by first | rfl | (simp; done) | (simp [*]; done), by repeat (first | exact qx.refl _ | apply qx.step)⟩
 ·rw [if_neg c2] at H
  have c2b0 : decide (32 ≤ a0) = false := decide_eq_false c2
  clear c2
  obtain rfl := Option.some.inj H
  go_enter Tryz.func107, Tryz.ntmps107
  go_wp2
  go_ret
  exact ⟨by first | rfl | (simp; done) | (simp [*]; done), by repeat (first | exact qx.refl _ | apply qx.step)⟩
def stringslite_HasPrefix.f (a0 : ByteArray) (a1 : ByteArray) : Option (Bool) := if (a0.size : Int) ≥ (a1.size : Int) then (if 0 ≤ (a1.size : Int) then (if (a1.size : Int) ≤ (a0.size : Int) then (some ((a0.extract 0 ((a1.size : Int) : Int).toNat).toList == a1.toList)) else (none)) else (none)) else (some false)
set_option maxHeartbeats 8000000 in
set_option maxRecDepth 100000 in
theorem stringslite_HasPrefix.calls (a0 : ByteArray) (a1 : ByteArray) (r : Bool) (w : World) (h : stringslite_HasPrefix.f a0 a1 = some r) :
  Calls Tryz.prog 169 #[.string a0, .string a1] w fun e w' => e = .returned (.bool r) ∧ qx w w' := by
 have H : (if (a0.size : Int) ≥ (a1.size : Int) then (if 0 ≤ (a1.size : Int) then (if (a1.size : Int) ≤ (a0.size : Int) then (some ((a0.extract 0 ((a1.size : Int) : Int).toNat).toList == a1.toList)) else (none)) else (none)) else (some false)) = some r := h
 clear h
 by_cases c3 : (a0.size : Int) ≥ (a1.size : Int)
 ·rw [if_pos c3] at H
  have c3b0 : decide ((a1.size : Int) ≤ (a0.size : Int)) = true := decide_eq_true c3
  have c3b1 : decide (a1.size ≤ a0.size) = true := decide_eq_true (Int.ofNat_le.mp c3)
  clear c3
  by_cases c4 : 0 ≤ (a1.size : Int)
  ·rw [if_pos c4] at H
   have c4b0 := eq_true c4
   have c4b1 : decide (0 ≤ (a1.size : Int)) = true := decide_eq_true c4
   clear c4
   by_cases c5 : (a1.size : Int) ≤ (a0.size : Int)
   ·rw [if_pos c5] at H
    have c5b0 := eq_true c5
    have c5b1 : decide ((a1.size : Int) ≤ (a0.size : Int)) = true := decide_eq_true c5
    clear c5
    obtain rfl := Option.some.inj H
    go_enter Tryz.func169, Tryz.ntmps169
    go_wp2
    go_ret
    exact ⟨by first | rfl | (simp; done) | (simp [*]; done), by repeat (first | exact qx.refl _ | apply qx.step)⟩
   ·rw [if_neg c5] at H
    exact absurd H yt
  ·rw [if_neg c4] at H
   exact absurd H yt
 ·rw [if_neg c3] at H
  have c3b0 : decide ((a1.size : Int) ≤ (a0.size : Int)) = false := decide_eq_false c3
  have c3b1 : decide (a1.size ≤ a0.size) = false := decide_eq_false (fun h => c3 (Int.ofNat_le.mpr h))
  clear c3
  obtain rfl := Option.some.inj H
  go_enter Tryz.func169, Tryz.ntmps169
  go_wp2
  go_ret
  exact ⟨by first | rfl | (simp; done) | (simp [*]; done), by repeat (first | exact qx.refl _ | apply qx.step)⟩
def strings_HasPrefix.f (a0 : ByteArray) (a1 : ByteArray) : Option (Bool) := (stringslite_HasPrefix.f a0 a1).bind fun t114 => (some t114)
set_option maxHeartbeats 8000000 in
set_option maxRecDepth 100000 in
theorem strings_HasPrefix.calls (a0 : ByteArray) (a1 : ByteArray) (r : Bool) (w : World) (h : strings_HasPrefix.f a0 a1 = some r) :
  Calls Tryz.prog 144 #[.string a0, .string a1] w fun e w' => e = .returned (.bool r) ∧ qx w w' := by
 have H : ((stringslite_HasPrefix.f a0 a1).bind fun t114 => (some t114)) = some r := h
 clear h
 replace H := Option.bind_eq_some_iff.mp H
 obtain ⟨t114, A30, H⟩ := H
 replace H : (some t114) = some r := H
 have A3 := qa.mk A30
 clear A30
 obtain rfl := Option.some.inj H
 go_enter Tryz.func144, Tryz.ntmps144
 go_wp2_with (first | ((with_reducible refine zn (f := 169) rfl ?_); refine kd (some 7) rfl rfl Tryz.func169 yj rfl #[.string a0, .string a1] rfl yc ?_; (with_reducible refine (stringslite_HasPrefix.calls a0 a1 t114 _ A3.out).mono ?_); rintro e w' ⟨rfl, ⟨nd, rfl⟩⟩; refine ⟨_, rfl, ?_⟩))
 go_ret
 exact ⟨by first | rfl | (simp; done) | (simp [*]; done), by repeat (first | exact qx.refl _ | apply qx.step)⟩
end Go.Proofs.YthdoohfdminfgaaGreatDoor.C
end
section
namespace Go.Proofs.YthdoohfdminfgaaGreatDoor.C
open Go.RowKit Go.Proofs.YthdoohfdminfgaaGreatDoorW.PrintWords Go.Proofs.YthdoohfdminfgaaGreatDoorW.PrintLast Go.Proofs.YthdoohfdminfgaaGreatDoorW.PrintMore
attribute [local go_sem] xa z7 xq xr zx zy xc z8
set_option linter.unusedVariables false
set_option linter.unusedSimpArgs false
theorem bytesOf_at (s : ByteArray) (k : Nat) (h : k < s.size) : (bytesOf s)[k]? = some ((s[k]'h).toNat : Int) := by
 have h' : k < s.data.toList.length := by rw [data_length]; exact h
 unfold bytesOf
 rw [List.getElem?_map, List.getElem?_eq_getElem h']
 rfl
theorem all_take_succ (p : Int → Bool) (l : List Int) (k : Nat) (x : Int) (hx : l[k]? = some x) (h : (l.take k).all p = true) (hp : p x = true) : (l.take (k + 1)).all p = true := by
 rw [List.take_add_one, hx, List.all_append, h]
 simp [hp]
theorem all_no (p : Int → Bool) (l : List Int) (k : Nat) (x : Int) (hx : l[k]? = some x) (hp : p x = false) : l.all p = false := by
 rw [List.all_eq_false]
 exact ⟨x, List.mem_of_getElem? hx, by simp [hp]⟩
set_option maxRecDepth 100000 in
set_option maxHeartbeats 1000000 in
theorem text_all_1 (p : Int → Bool) (s : ByteArray) (w : World) (hs : s.size ≤ 4294967280)
  (hp : ∀ (c : Int) (W : World), Calls Tryz.prog 104 #[.int .u8 c] W fun e w' => e = .returned (.bool (p c)) ∧ qx W w') :
  Calls Tryz.prog 103 #[.string s, .func (.func 104) #[] #[]] w fun e w' => e = .returned (.bool ((bytesOf s).all p)) ∧ qx w w' := by
 go_enter Tryz.func103, Tryz.ntmps103
 go_wp2
 go_loopw [5] (fun i w' => ∃ k : Nat, k ≤ s.size ∧ i = .int .i64 k ∧ ((bytesOf s).take k).all p = true ∧ qx w w') (fun i _ => s.size - (intOf i).toNat)
 case atStart => exact ⟨0, Nat.zero_le _, rfl, rfl, qx.refl _⟩
 case round =>
  obtain ⟨k, hk, rfl, hall, hd⟩ := hrel
  have HD := qa.mk hd
  have HA := qa.mk hall
  clear hd hall
  by_cases hlt : k < s.size
  ·have HX := qa.mk (bytesOf_at s k hlt)
   cases hb : p (s[k].toNat : Int)
   ·have HB := qa.mk hb
    go_wp2_with (go_at_call 104; refine (hp _ _).mono ?_; rintro e w' ⟨rfl, n, rfl⟩)
    go_ret
    exact ⟨congrArg (fun b => Ending.returned (Value.bool b)) (all_no p _ k _ HX.out HB.out).symm, HD.out.step _⟩
   ·have HB := qa.mk hb
    go_wp2_with (go_at_call 104; refine (hp _ _).mono ?_; rintro e w' ⟨rfl, n, rfl⟩)
    go_roundw
    case rel => exact ⟨k + 1, by omega, by go_num, all_take_succ p _ k _ HX.out HA.out HB.out, HD.out.step _⟩
    case measure => simp [intOf]; omega
  ·obtain rfl : k = s.size := by omega
   have he : (bytesOf s).all p = true := by
    have := HA.out
    rwa [List.take_of_length_le (by rw [bytesOf_length]; exact Nat.le_refl _)] at this
   have HE := qa.mk he
   clear he
   go_wp2
   go_ret
   exact ⟨congrArg (fun b => Ending.returned (Value.bool b)) HE.out.symm, HD.out⟩
set_option maxRecDepth 100000 in
set_option maxHeartbeats 1000000 in
theorem text_all_2 (p : Int → Bool) (s : ByteArray) (w : World) (hs : s.size ≤ 4294967280)
  (hp : ∀ (c : Int) (W : World), Calls Tryz.prog 107 #[.int .u8 c] W fun e w' => e = .returned (.bool (p c)) ∧ qx W w') :
  Calls Tryz.prog 103 #[.string s, .func (.func 107) #[] #[]] w fun e w' => e = .returned (.bool ((bytesOf s).all p)) ∧ qx w w' := by
 go_enter Tryz.func103, Tryz.ntmps103
 go_wp2
 go_loopw [5] (fun i w' => ∃ k : Nat, k ≤ s.size ∧ i = .int .i64 k ∧ ((bytesOf s).take k).all p = true ∧ qx w w') (fun i _ => s.size - (intOf i).toNat)
 case atStart => exact ⟨0, Nat.zero_le _, rfl, rfl, qx.refl _⟩
 case round =>
  obtain ⟨k, hk, rfl, hall, hd⟩ := hrel
  have HD := qa.mk hd
  have HA := qa.mk hall
  clear hd hall
  by_cases hlt : k < s.size
  ·have HX := qa.mk (bytesOf_at s k hlt)
   cases hb : p (s[k].toNat : Int)
   ·have HB := qa.mk hb
    go_wp2_with (go_at_call 107; refine (hp _ _).mono ?_; rintro e w' ⟨rfl, n, rfl⟩)
    go_ret
    exact ⟨congrArg (fun b => Ending.returned (Value.bool b)) (all_no p _ k _ HX.out HB.out).symm, HD.out.step _⟩
   ·have HB := qa.mk hb
    go_wp2_with (go_at_call 107; refine (hp _ _).mono ?_; rintro e w' ⟨rfl, n, rfl⟩)
    go_roundw
    case rel => exact ⟨k + 1, by omega, by go_num, all_take_succ p _ k _ HX.out HA.out HB.out, HD.out.step _⟩
    case measure => simp [intOf]; omega
  ·obtain rfl : k = s.size := by omega
   have he : (bytesOf s).all p = true := by
    have := HA.out
    rwa [List.take_of_length_le (by rw [bytesOf_length]; exact Nat.le_refl _)] at this
   have HE := qa.mk he
   clear he
   go_wp2
   go_ret
   exact ⟨congrArg (fun b => Ending.returned (Value.bool b)) HE.out.symm, HD.out⟩
theorem text_letter_some (c : Int) : ∃ b, kz.f c = some b := by
 unfold kz.f
 repeat' split
 all_goals exact ⟨_, rfl⟩
theorem text_Valid_1_some (c : Int) : ∃ b, text_Valid_1.f c = some b := by
 unfold text_Valid_1.f
 obtain ⟨b, hb⟩ := text_letter_some c
 rw [hb, Option.bind_some]
 split
 ·exact ⟨_, rfl⟩
 ·exact ⟨_, rfl⟩
theorem text_Valid_2_some (c : Int) : ∃ b, text_Valid_2.f c = some b := by
 unfold text_Valid_2.f
 split
 all_goals exact ⟨_, rfl⟩
def text_p1 (c : Int) : Bool := (text_Valid_1.f c).getD false
def text_p2 (c : Int) : Bool := (text_Valid_2.f c).getD false
def xm (s : ByteArray) : Nat → Nat → Bool
 | 0, _ => true
 | b + 1, pos => if pos < s.size then (if (Utf8.decode s pos).1 < 32 ∨ (Utf8.decode s pos).1 = 127 then false else if (Utf8.decode s pos).1 = 65533 ∧ Lib.hasPrefix (s.extract pos s.size).data.toList [239, 191, 189] = false then false else xm s b (pos + (Utf8.decode s pos).2)) else true
theorem text_width (s : ByteArray) (pos : Nat) (h : pos < s.size) : 1 ≤ (Utf8.decode s pos).2 := by
 by_cases ha : (s[pos]'h).toNat < 128
 ·rw [decode_ascii s pos h ha]
  exact Nat.le_refl _
 ·exact (decode_high s pos h yg).2
theorem Drawn0_iter_below (w : World) (s : ByteArray) (pos : Nat) : Below w.heap.size w (w.iter s pos) := (Below.refl w.heap.size w).alloc (Nat.le_refl _) _
set_option maxRecDepth 1000000 in
set_option maxHeartbeats 2000000 in
theorem text_utf_walk (s : ByteArray) (w : World) (hs : s.size ≤ 4294967280) :
  Calls Tryz.prog 102 #[.string s] w fun e w' => e = .returned (.bool (xm s s.size 0)) ∧ Below w.heap.size w w' := by
 go_enter Tryz.func102, Tryz.ntmps102
 go_wp2
 go_loopw [3, 4] (fun _ _ w' => ∃ (pos b : Nat), w' = w.iter s pos ∧ xm s b pos = xm s s.size 0 ∧ s.size ≤ pos + b) (fun _ _ w' => s.size - w'.iterPos w.heap.size)
 case atStart => exact ⟨0, s.size, rfl, rfl, by omega⟩
 case round =>
  obtain ⟨pos, b, rfl, hc, hb⟩ := hrel
  have HC := qa.mk hc
  clear hc
  by_cases hp : pos < s.size
  ·have hw1 := text_width s pos hp
   obtain ⟨b, rfl⟩ : ∃ b', b = b' + 1 := ⟨b - 1, by omega⟩
   obtain ⟨r, hr⟩ : ∃ r, r = (Utf8.decode s pos).1 := ⟨_, rfl⟩
   have hnx : ∀ ty, (Instr.next (.pointer (some ⟨w.heap.size, 0, none⟩)) true ty).run Tryz.prog (w.iter s pos) = .ok (.tuple #[.bool true, .int .i64 pos, .int .i32 r]) (w.iter s (pos + (Utf8.decode s pos).2)) := fun ty => by rw [hr]; exact run_next_any w s pos ty hp
   have hgo : xm s (b + 1) pos = (if r < 32 ∨ r = 127 then false else if r = 65533 ∧ Lib.hasPrefix (s.extract pos s.size).data.toList [239, 191, 189] = false then false else xm s b (pos + (Utf8.decode s pos).2)) := by
    rw [hr, xm, if_pos hp]
   have HGO := qa.mk hgo
   clear hgo hr
   by_cases h1 : r < 32 ∨ r = 127
   ·have hf : xm s s.size 0 = false := by rw [← HC.out, HGO.out, if_pos h1]
    have HF := qa.mk hf
    clear hf HC HGO
    rcases h1 with h1 | h1
    all_goals
     first | have h1' : (r : Int) < 32 := yg | (have h1' : ((r : Int) == 127) = true := (beq_iff_eq.2 yg); have h2' : 32 ≤ (r : Int) := yg)
     clear h1
     go_wp2_with fail
     go_ret
     exact ⟨congrArg (fun b => Ending.returned (Value.bool b)) HF.out.symm, Drawn0_iter_below w s _⟩
   ·have g1 : 32 ≤ (r : Int) := by omega
    have g2 : ((r : Int) == 127) = false := beq_eq_false_iff_ne.2 yg
    by_cases h3 : r = 65533
    ·have g3 : ((r : Int) == 65533) = true := by simp [h3]
     cases h4 : Lib.hasPrefix (s.extract pos s.size).data.toList [239, 191, 189]
     ·have hf : xm s s.size 0 = false := by rw [← HC.out, HGO.out, if_neg h1, if_pos ⟨h3, h4⟩]
      have HF := qa.mk hf
      have H4 := qa.mk h4
      clear hf HC HGO h1 h3 h4
      go_wp2_with (go_at_call 144; refine (Tryz.strings_HasPrefix _ _ _).mono ?_; rintro e w' ⟨rfl, rfl⟩; rw [show Lib.hasPrefix _ _ = _ from H4.out])
      go_ret
      exact ⟨congrArg (fun b => Ending.returned (Value.bool b)) HF.out.symm, Drawn0_iter_below w s _⟩
     ·have hf : xm s b (pos + (Utf8.decode s pos).2) = xm s s.size 0 := by rw [← HC.out, HGO.out, if_neg h1, if_neg (fun h => by rw [h4] at h; exact absurd h.2 yt)]
      have HF := qa.mk hf
      have H4 := qa.mk h4
      clear hf HC HGO h1 h3 h4
      go_wp2_with (go_at_call 144; refine (Tryz.strings_HasPrefix _ _ _).mono ?_; rintro e w' ⟨rfl, rfl⟩; rw [show Lib.hasPrefix _ _ = _ from H4.out])
      go_roundw
      case rel => exact ⟨pos + (Utf8.decode s pos).2, b, rfl, HF.out, by omega⟩
      case measure => simp; omega
    ·have g3 : ((r : Int) == 65533) = false := beq_eq_false_iff_ne.2 yg
     have hf : xm s b (pos + (Utf8.decode s pos).2) = xm s s.size 0 := by rw [← HC.out, HGO.out, if_neg h1, if_neg (fun h => h3 h.1)]
     have HF := qa.mk hf
     clear hf HC HGO h1 h3
     go_wp2_with fail
     go_roundw
     case rel => exact ⟨pos + (Utf8.decode s pos).2, b, rfl, HF.out, by omega⟩
     case measure => simp; omega
  ·have hnx : ∀ ty, (Instr.next (.pointer (some ⟨w.heap.size, 0, none⟩)) true ty).run Tryz.prog (w.iter s pos) = _ := fun ty => run_next_end w s pos ty hp
   have hf : xm s s.size 0 = true := by
    rw [← HC.out]
    cases b with
    | zero => rfl
    | succ b => rw [xm, if_neg hp]
   have HF := qa.mk hf
   clear hf HC
   go_wp2
   go_ret
   exact ⟨congrArg (fun b => Ending.returned (Value.bool b)) HF.out.symm, Drawn0_iter_below w s _⟩
def jc.f (a0 : Int) (a1 : ByteArray) : Option Bool := if a1.size ≤ 4294967280 then some (if a0 = 12 then xm a1 a1.size 0 else if a0 = 19 then (bytesOf a1).all text_p1 else if a0 = 22 then (bytesOf a1).all text_p2 else false) else none
theorem jc.calls (a0 : Int) (a1 : ByteArray) (r : Bool) (w : World) (h : jc.f a0 a1 = some r) :
  Calls Tryz.prog 75 #[.int .i64 a0, .string a1] w fun e w' => e = .returned (.bool r) ∧ Below w.heap.size w w' := by
 unfold jc.f at h
 split at h
 ·rename_i hs
  obtain rfl := Option.some.inj h
  clear h
  by_cases h12 : a0 = 12
  ·subst h12
   go_enter Tryz.func75, Tryz.ntmps75
   go_wp2_with (go_at_call 102; refine (text_utf_walk _ _ hs).mono ?_; rintro e w' ⟨rfl, hb⟩)
   go_ret
   exact ⟨rfl, hb⟩
  ·have g12 : (a0 == 12) = false := beq_eq_false_iff_ne.2 h12
   by_cases h19 : a0 = 19
   ·subst h19
    clear h12
    go_enter Tryz.func75, Tryz.ntmps75
    go_wp2_with (go_at_call 103; refine (text_all_1 text_p1 _ _ hs (fun c W => by obtain ⟨b, hb⟩ := text_Valid_1_some c; have hc := text_Valid_1.calls c b W hb; rw [show text_p1 c = b by unfold text_p1; rw [hb]; rfl]; exact hc)).mono ?_; rintro e w' ⟨rfl, hb⟩)
    go_ret
    exact ⟨rfl, hb.below⟩
   ·have g19 : (a0 == 19) = false := beq_eq_false_iff_ne.2 h19
    by_cases h22 : a0 = 22
    ·subst h22
     clear h12 h19
     go_enter Tryz.func75, Tryz.ntmps75
     go_wp2_with (go_at_call 103; refine (text_all_2 text_p2 _ _ hs (fun c W => by obtain ⟨b, hb⟩ := text_Valid_2_some c; have hc := text_Valid_2.calls c b W hb; rw [show text_p2 c = b by unfold text_p2; rw [hb]; rfl]; exact hc)).mono ?_; rintro e w' ⟨rfl, hb⟩)
     go_ret
     exact ⟨rfl, hb.below⟩
    ·have g22 : (a0 == 22) = false := beq_eq_false_iff_ne.2 h22
     rw [if_neg h12, if_neg h19, if_neg h22]
     clear h12 h19 h22
     go_enter Tryz.func75, Tryz.ntmps75
     go_wp2_with fail
     go_ret
     exact ⟨rfl, Below.refl _ _⟩
 ·exact absurd h yt
end Go.Proofs.YthdoohfdminfgaaGreatDoor.C
end
section
namespace Go.Proofs.YthdoohfdminfgaaGreatDoor.C
open Go.RowKit Go.Proofs.YthdoohfdminfgaaGreatDoorW.PrintWords Go.Proofs.YthdoohfdminfgaaGreatDoorW.PrintLast Go.Proofs.YthdoohfdminfgaaGreatDoorW.PrintMore
attribute [local go_sem] xa z7 xq xr zx zy xc z8
set_option linter.unusedVariables false
set_option linter.unusedSimpArgs false
mutual
def qw.l0 : Nat → List (S40) → List (S40) → Int → Int → Option (Int)
 | 0, _, _, _, _ => none
 | k + 1, x0, x13, x14, x15 => if x15 < x14 then (if 0 ≤ x15 then (if x15 < (x13.length : Int) then ((xn.f k ((qn x13 x15).f0)).bind fun t117 => (if t117 = true then (if ((qn x13 x15).f2).toList = ([] : List UInt8) then (qw.j1 k x0 x15 x13 x14 x15 true ((qn x13 x15).f0) ((qn x13 x15).f1) ((qn x13 x15).f2)) else ((jc.f ((qn x13 x15).f1) ((qn x13 x15).f2)).bind fun t118 => (qw.j1 k x0 x15 x13 x14 x15 (!t118) ((qn x13 x15).f0) ((qn x13 x15).f1) ((qn x13 x15).f2)))) else (some 11))) else (none)) else (none)) else (some 0)
def qw.j1 : Nat → List (S40) → Int → List (S40) → Int → Int → Bool → ByteArray → Int → ByteArray → Option (Int)
 | 0, _, _, _, _, _, _, _, _, _ => none
 | k + 1, x0, x3, x13, x14, x15, x34, x117000, x117001, x117002 => if x34 = true then (some 13) else (if (x117002.size : Int) > 64 then (some 2) else (if 0 ≤ x3 then (if x3 ≤ (x0.length : Int) then ((some (x0.take (x3 : Int).toNat : List (S40))).bind fun y119 => (qw.l1 k x0 x13 x14 x15 y119 (y119.length : Int) 0 x117000 x117001 x117002)) else (none)) else (none)))
def qw.l1 : Nat → List (S40) → List (S40) → Int → Int → List (S40) → Int → Int → ByteArray → Int → ByteArray → Option (Int)
 | 0, _, _, _, _, _, _, _, _, _, _ => none
 | k + 1, x0, x13, x14, x15, x41, x42, x43, x117000, x117001, x117002 => if x43 < x42 then (if 0 ≤ x43 then (if x43 < (x41.length : Int) then (if ((qn x41 x43).f0).toList = x117000.toList then (some 10) else (qw.l1 k x0 x13 x14 x15 x41 x42 (wrap64 (x43 + 1)) x117000 x117001 x117002)) else (none)) else (none)) else (qw.l0 k x0 x13 x14 (wrap64 (x15 + 1)))
end
def qw.f (k : Nat) (l0 : List (S40)) : Option (Int) := if (l0.length : Int) = 0 then (some 14) else (if (l0.length : Int) > 4 then (some 2) else (qw.l0 k l0 l0 (l0.length : Int) 0))
theorem qw.xi : ∀ k, (∀ y0 y1 y2 y3, LeO (qw.l0 k y0 y1 y2 y3) (qw.l0 (k + 1) y0 y1 y2 y3)) ∧ (∀ y0 y1 y2 y3 y4 y5 y6 y7 y8, LeO (qw.j1 k y0 y1 y2 y3 y4 y5 y6 y7 y8) (qw.j1 (k + 1) y0 y1 y2 y3 y4 y5 y6 y7 y8)) ∧ (∀ y0 y1 y2 y3 y4 y5 y6 y7 y8 y9, LeO (qw.l1 k y0 y1 y2 y3 y4 y5 y6 y7 y8 y9) (qw.l1 (k + 1) y0 y1 y2 y3 y4 y5 y6 y7 y8 y9))
 | 0 => ⟨fun _ _ _ _ r h => by simp [qw.l0] at h, fun _ _ _ _ _ _ _ _ _ r h => by simp [qw.j1] at h, fun _ _ _ _ _ _ _ _ _ _ r h => by simp [qw.l1] at h⟩
 | k + 1 => by
  obtain ⟨ih0, ih1, ih2⟩ := qw.xi k
  refine ⟨?_, ?_, ?_⟩
  ·intro y0 y1 y2 y3
   unfold qw.l0
   repeat' first
   | (with_reducible exact ih0 _ _ _ _)
   | (with_reducible exact ih1 _ _ _ _ _ _ _ _ _)
   | (with_reducible exact ih2 _ _ _ _ _ _ _ _ _ _)
   | (with_reducible exact xn.mono _ _)
   | (with_reducible exact LeO.refl _)
   | (with_reducible exact LeO.none _)
   | (with_reducible refine LeO.ite ?_ ?_)
   | (with_reducible refine LeO.bind ?_ (fun _ => ?_))
  ·intro y0 y1 y2 y3 y4 y5 y6 y7 y8
   unfold qw.j1
   repeat' first
   | (with_reducible exact ih0 _ _ _ _)
   | (with_reducible exact ih1 _ _ _ _ _ _ _ _ _)
   | (with_reducible exact ih2 _ _ _ _ _ _ _ _ _ _)
   | (with_reducible exact xn.mono _ _)
   | (with_reducible exact LeO.refl _)
   | (with_reducible exact LeO.none _)
   | (with_reducible refine LeO.ite ?_ ?_)
   | (with_reducible refine LeO.bind ?_ (fun _ => ?_))
  ·intro y0 y1 y2 y3 y4 y5 y6 y7 y8 y9
   unfold qw.l1
   repeat' first
   | (with_reducible exact ih0 _ _ _ _)
   | (with_reducible exact ih1 _ _ _ _ _ _ _ _ _)
   | (with_reducible exact ih2 _ _ _ _ _ _ _ _ _ _)
   | (with_reducible exact xn.mono _ _)
   | (with_reducible exact LeO.refl _)
   | (with_reducible exact LeO.none _)
   | (with_reducible refine LeO.ite ?_ ?_)
   | (with_reducible refine LeO.bind ?_ (fun _ => ?_))
theorem qw.mono : ∀ a0 k, LeO (qw.f k a0) (qw.f (k + 1) a0) := by
 intro a0 k
 obtain ⟨ih0, ih1, ih2⟩ := qw.xi k
 unfold qw.f
 repeat' first
   | (with_reducible exact ih0 _ _ _ _)
   | (with_reducible exact ih1 _ _ _ _ _ _ _ _ _)
   | (with_reducible exact ih2 _ _ _ _ _ _ _ _ _ _)
   | (with_reducible exact xn.mono _ _)
   | (with_reducible exact LeO.refl _)
   | (with_reducible exact LeO.none _)
   | (with_reducible refine LeO.ite ?_ ?_)
   | (with_reducible refine LeO.bind ?_ (fun _ => ?_))
set_option maxHeartbeats 8000000 in
set_option maxRecDepth 100000 in
theorem qw.calls (k : Nat) (A0 : Option Addr) (c0 : Nat) (l0 : List (S40)) (r : Int) (w : World) (hG : LibHeld w) (hr0 : Kd.C k40 w A0 l0.length l0) (hc0 : l0.length ≤ c0) (h : qw.f k l0 = some r) :
  Calls Tryz.prog 47 #[.slice A0 l0.length c0] w fun e w' => e = .returned (.int .i64 r) ∧ Below w.heap.size w w' := by
 have hu40 := Tryz.underlying40
 have HG := qa.mk hG
 clear hG
 have HR0 := qa.mk hr0
 have HC0 := qa.mk hc0
 clear hr0 hc0
 have HB := qa.mk (Below.refl w.heap.size w)
 have H : (if (l0.length : Int) = 0 then (some 14) else (if (l0.length : Int) > 4 then (some 2) else (qw.l0 k l0 l0 (l0.length : Int) 0))) = some r := h
 clear h
 by_cases c2 : (l0.length : Int) = 0
 ·rw [if_pos c2] at H
  have c2b0 : ((l0.length : Int) == 0) = true := beq_iff_eq.mpr c2
  have c2b1 : ((l0.length : Int) != 0) = false := bne_eq_false_iff_eq.mpr c2
  clear c2
  obtain rfl := Option.some.inj H
  go_enter Tryz.func47, Tryz.ntmps47
  go_wp2
  go_ret
  exact ⟨by first | rfl | (simp [qu, qt] <;> rfl) | (simp [*, qu, qt] <;> rfl), by repeat (first | (with_reducible first | exact HB.out | apply qc | apply qb | apply qd) | exact HB.out)⟩
 ·rw [if_neg c2] at H
  have c2b0 : ((l0.length : Int) == 0) = false := beq_eq_false_iff_ne.mpr c2
  have c2b1 : ((l0.length : Int) != 0) = true := bne_iff_ne.mpr c2
  have c2b2 : ¬ (l0 = []) := fun h_ => c2 (by rw [h_]; rfl)
  by_cases c3 : (l0.length : Int) > 4
  ·rw [if_pos c3] at H
   have c3b0 : decide (4 < (l0.length : Int)) = true := decide_eq_true c3
   have c3b1 : decide (4 < l0.length) = true := decide_eq_true yg
   clear c3
   obtain rfl := Option.some.inj H
   go_enter Tryz.func47, Tryz.ntmps47
   go_wp2
   go_ret
   exact ⟨by first | rfl | (simp [qu, qt] <;> rfl) | (simp [*, qu, qt] <;> rfl), by repeat (first | (with_reducible first | exact HB.out | apply qc | apply qb | apply qd) | exact HB.out)⟩
  ·rw [if_neg c3] at H
   have c3b0 : decide (4 < (l0.length : Int)) = false := decide_eq_false c3
   have c3b1 : decide (4 < l0.length) = false := decide_eq_false yg
   clear c3
   have H' := qa.mk H
   clear H
   go_enter Tryz.func47, Tryz.ntmps47
   go_wp2
   go_loopg [15] k (fun kq v15 w' => ∃ (x15_1 : Int), v15 = .int .i64 x15_1 ∧ qa (qw.l0 kq l0 l0 (l0.length : Int) x15_1 = some r) ∧ qa (kq ≤ k) ∧ qa (Below w.heap.size w w'))
   case atStart => exact ⟨(0), yf, H', ⟨Nat.le_refl _⟩, ⟨by repeat (first | (with_reducible first | exact HB.out | apply qc | apply qb | apply qd) | exact HB.out)⟩⟩
   case round =>
    clear H'
    (try clear c2); (try clear c2b0); (try clear c2b1); (try clear c2b2); (try clear p2); (try clear c3); (try clear c3b0); try clear c3b1
    obtain ⟨x15_1, rfl, HA, HK1, HB⟩ := hrel
    cases gk with
    | zero => exact absurd HA.out (by simp [qw.l0])
    | succ k1 =>
     have H := HA.out
     clear HA
     simp only [qw.l0] at H
     by_cases c4 : x15_1 < (l0.length : Int)
     ·rw [if_pos c4] at H
      have c4b0 : decide (x15_1 < (l0.length : Int)) = true := decide_eq_true c4
      clear c4
      by_cases c5 : 0 ≤ x15_1
      ·rw [if_pos c5] at H
       have c5b0 : decide (0 ≤ x15_1) = true := decide_eq_true c5
       clear c5
       by_cases c6 : x15_1 < (l0.length : Int)
       ·rw [if_pos c6] at H
        have c6b0 : decide (x15_1 < (l0.length : Int)) = true := decide_eq_true c6
        clear c6
        replace H := Option.bind_eq_some_iff.mp H
        obtain ⟨t117, A70, H⟩ := H
        replace H : (if t117 = true then (if ((qn l0 x15_1).f2).toList = ([] : List UInt8) then (qw.j1 k1 l0 x15_1 l0 (l0.length : Int) x15_1 true ((qn l0 x15_1).f0) ((qn l0 x15_1).f1) ((qn l0 x15_1).f2)) else ((jc.f ((qn l0 x15_1).f1) ((qn l0 x15_1).f2)).bind fun t118 => (qw.j1 k1 l0 x15_1 l0 (l0.length : Int) x15_1 (!t118) ((qn l0 x15_1).f0) ((qn l0 x15_1).f1) ((qn l0 x15_1).f2)))) else (some 11)) = some r := H
        have A7 := qa.mk A70
        clear A70
        by_cases c8 : t117 = true
        ·subst c8
         have H1 : (if ((qn l0 x15_1).f2).toList = ([] : List UInt8) then (qw.j1 k1 l0 x15_1 l0 (l0.length : Int) x15_1 true ((qn l0 x15_1).f0) ((qn l0 x15_1).f1) ((qn l0 x15_1).f2)) else ((jc.f ((qn l0 x15_1).f1) ((qn l0 x15_1).f2)).bind fun t118 => (qw.j1 k1 l0 x15_1 l0 (l0.length : Int) x15_1 (!t118) ((qn l0 x15_1).f0) ((qn l0 x15_1).f1) ((qn l0 x15_1).f2)))) = some r := by rw [if_pos rfl] at H; exact H
         clear H
         have H := H1
         clear H1
         have HC9 := qa.mk H
         clear H
         have p115 : 0 ≤ (x15_1 : Int) := of_decide_eq_true cz
         have q115 : x15_1 < (l0.length : Int) := of_decide_eq_true cz
         obtain ⟨ad115, e115, hx115_0, hx115_1, hx115_2⟩ := k5 HR0.out x15_1 p115 q115
         cases e115
         replace hx115_0 := (HB.out.cell (World.block_lt_of_cell? w _ hx115_0)).trans hx115_0
         replace hx115_1 := (HB.out.cell (World.block_lt_of_cell? w _ hx115_1)).trans hx115_1
         replace hx115_2 := (HB.out.cell (World.block_lt_of_cell? w _ hx115_2)).trans hx115_2
         replace p115 := eq_true p115
         replace q115 := eq_true q115
         go_upto_region 10 with (first | ((with_reducible refine zl (N := 4) rfl ?_); refine zo ?hg (N := 4) ?hd (cs := #[.string (⟨#[]⟩ : ByteArray), .int .i64 0, .string (⟨#[]⟩ : ByteArray)]) (t := 40) ?hr ?_; (case hd => rfl); (case hg => rfl); (case hr => first | (go_simp; done) | (go_simp; rfl)); intro gb116 hg w10 hbox hb; have n0_ := qa.mk (qp cu hb); have n1_ := qa.mk (hbox); have n2_ := qa.mk ((by rw [hg]; exact (qr cu) : w.heap.size ≤ gb116)); have n3_ := qa.mk ((by rw [hg]; exact (qr cu) : w.heap.size ≤ gb116)); clear HB; have HB := n0_; have BK116 := n1_; have GW116 := n2_; have GE116 := n3_; clear n0_ n1_ n2_ n3_; clear hb hbox hg; have hcz11_0 : w10.cell? ⟨gb116, 0, none⟩ = some (.string (⟨#[]⟩ : ByteArray)) := (ql BK116.out 0).trans rfl; have hcz11_1 : w10.cell? ⟨gb116, 1, none⟩ = some (.int .i64 0) := (ql BK116.out 1).trans rfl; have hcz11_2 : w10.cell? ⟨gb116, 2, none⟩ = some (.string (⟨#[]⟩ : ByteArray)) := (ql BK116.out 2).trans rfl; have hfz11_0 := qo BK116.out 0; have hfz11_1 := qo BK116.out 1; have hfz11_2 := qo BK116.out 2) | ((with_reducible refine zn (f := 74) rfl ?_); refine kd (some 22) rfl rfl Tryz.func74 yj rfl #[.string ((qn l0 x15_1).f0)] rfl yc ?_; (with_reducible refine (xn.calls k1 ((qn l0 x15_1).f0) true _ ?side1 A7.out).mono ?_); (case side1 => exact LibHeld.below HG.out yu); rintro e w12 ⟨rfl, hb⟩; refine ⟨_, rfl, ?_⟩; have n0_ := qa.mk (q9 (g := gb116) (o := .cells #[.string ((qn l0 x15_1).f0), .int .i64 ((qn l0 x15_1).f1), .string ((qn l0 x15_1).f2)] 40 (0, 0)) (by (with_reducible repeat (first | refine qg ?_ _ | refine qi ?_ | refine qf ?_ _)); refine zu (cs := #[.string ((qn l0 x15_1).f0), .int .i64 ((qn l0 x15_1).f1), .string (⟨#[]⟩ : ByteArray)]) ?_ 2 _ rfl; (with_reducible repeat (first | refine qg ?_ _ | refine qi ?_ | refine qf ?_ _)); refine zu (cs := #[.string ((qn l0 x15_1).f0), .int .i64 0, .string (⟨#[]⟩ : ByteArray)]) ?_ 1 _ rfl; (with_reducible repeat (first | refine qg ?_ _ | refine qi ?_ | refine qf ?_ _)); refine zu (cs := #[.string (⟨#[]⟩ : ByteArray), .int .i64 0, .string (⟨#[]⟩ : ByteArray)]) ?_ 0 _ rfl; (with_reducible repeat (first | refine qg ?_ _ | refine qi ?_ | refine qf ?_ _)); exact BK116.out) hb); have n1_ := qa.mk (qp yu hb); clear BK116; clear HB; have BK116 := n0_; have HB := n1_; clear n0_ n1_; (try clear hb); (try clear hb2); (try clear hk); (try clear hi)))
         (try simp only [Act.put, List.setIfInBounds_toArray, List.set_cons_zero, List.set_cons_succ])
         go_cut [34] (fun v34 wc => ∃ (kq : Nat) (x34_8 : Bool), v34 = .bool x34_8 ∧ qa (qw.j1 kq l0 x15_1 l0 (l0.length : Int) x15_1 x34_8 ((qn l0 x15_1).f0) ((qn l0 x15_1).f1) ((qn l0 x15_1).f2) = some r) ∧ qa (kq ≤ k1) ∧ qa (wc.heap[gb116]? = some (.cells #[.string ((qn l0 x15_1).f0), .int .i64 ((qn l0 x15_1).f1), .string ((qn l0 x15_1).f2)] 40 (0, 0))) ∧ qa (Below w.heap.size w wc))
         case first =>
          have H := HC9.out
          clear HC9
          by_cases c13 : ((qn l0 x15_1).f2).toList = ([] : List UInt8)
          ·rw [if_pos c13] at H
           have c13b0 : (((qn l0 x15_1).f2).toList == ([] : List UInt8)) = true := beq_iff_eq.mpr c13
           have c13b1 : (((qn l0 x15_1).f2).toList != ([] : List UInt8)) = false := bne_eq_false_iff_eq.mpr c13
           clear c13
           (first | rw [c13b0] | (simp only [zm, zq]; rw [c13b0]) | skip)
           have H' := qa.mk H
           clear H
           have hcz14_0 : w12.cell? ⟨gb116, 0, none⟩ = some (.string ((qn l0 x15_1).f0)) := (ql BK116.out 0).trans rfl
           have hcz14_1 : w12.cell? ⟨gb116, 1, none⟩ = some (.int .i64 ((qn l0 x15_1).f1)) := (ql BK116.out 1).trans rfl
           have hcz14_2 : w12.cell? ⟨gb116, 2, none⟩ = some (.string ((qn l0 x15_1).f2)) := (ql BK116.out 2).trans rfl
           have hfz14_0 := qo BK116.out 0
           have hfz14_1 := qo BK116.out 1
           have hfz14_2 := qo BK116.out 2
           go_wp2
           go_meet
           case rel => exact ⟨_, (true), yf, H', ⟨by have := HK1.out; first | omega | exact Nat.le_refl _⟩, ⟨by (with_reducible repeat (first | refine qg ?_ _ | refine qi ?_ | refine qf ?_ _)); exact BK116.out⟩, ⟨by repeat (first | (with_reducible first | exact HB.out | apply qc | apply qb | apply qd | refine qe ?_ GE116.out) | exact HB.out)⟩⟩
          ·rw [if_neg c13] at H
           have c13b0 : (((qn l0 x15_1).f2).toList == ([] : List UInt8)) = false := beq_eq_false_iff_ne.mpr c13
           have c13b1 : (((qn l0 x15_1).f2).toList != ([] : List UInt8)) = true := bne_iff_ne.mpr c13
           (first | rw [c13b0] | (simp only [zm, zq]; rw [c13b0]) | skip)
           replace H := Option.bind_eq_some_iff.mp H
           obtain ⟨t118, A150, H⟩ := H
           replace H : (qw.j1 k1 l0 x15_1 l0 (l0.length : Int) x15_1 (!t118) ((qn l0 x15_1).f0) ((qn l0 x15_1).f1) ((qn l0 x15_1).f2)) = some r := H
           have A15 := qa.mk A150
           clear A150
           have H' := qa.mk H
           clear H
           have hcz16_0 : w12.cell? ⟨gb116, 0, none⟩ = some (.string ((qn l0 x15_1).f0)) := (ql BK116.out 0).trans rfl
           have hcz16_1 : w12.cell? ⟨gb116, 1, none⟩ = some (.int .i64 ((qn l0 x15_1).f1)) := (ql BK116.out 1).trans rfl
           have hcz16_2 : w12.cell? ⟨gb116, 2, none⟩ = some (.string ((qn l0 x15_1).f2)) := (ql BK116.out 2).trans rfl
           have hfz16_0 := qo BK116.out 0
           have hfz16_1 := qo BK116.out 1
           have hfz16_2 := qo BK116.out 2
           go_wp2_with (first | (go_at_call 75; (with_reducible refine (jc.calls ((qn l0 x15_1).f1) ((qn l0 x15_1).f2) t118 _ A15.out).mono ?_); rintro e w17 ⟨rfl, hb⟩; have n0_ := qa.mk (q9 (g := gb116) (o := .cells #[.string ((qn l0 x15_1).f0), .int .i64 ((qn l0 x15_1).f1), .string ((qn l0 x15_1).f2)] 40 (0, 0)) fq hb); have n1_ := qa.mk (qp yu hb); clear BK116; clear HB; have BK116 := n0_; have HB := n1_; clear n0_ n1_; (try clear hb); (try clear hb2); (try clear hk); (try clear hi)))
           go_meet
           case rel => exact ⟨_, (!t118), yf, H', ⟨by have := HK1.out; first | omega | exact Nat.le_refl _⟩, ⟨by (with_reducible repeat (first | refine qg ?_ _ | refine qi ?_ | refine qf ?_ _)); exact BK116.out⟩, ⟨by repeat (first | (with_reducible first | exact HB.out | apply qc | apply qb | apply qd | refine qe ?_ GE116.out) | exact HB.out)⟩⟩
         case rest =>
          clear HC9
          (try clear c1); (try clear p1); (try clear q1); (try clear hx1); (try clear c2); (try clear c2b0); (try clear c2b1); (try clear c2b2); (try clear p2); (try clear c3); try clear c3b0
          (try clear c3b1); (try clear c4); (try clear c4b0); (try clear c5); (try clear c5b0); (try clear c6); (try clear c6b0); (try clear c7); (try clear c8); (try clear p11); try clear q11
          (try clear hx11); (try clear c13); (try clear c13b0); (try clear c13b1); (try clear hcz11_0); (try clear hcz11_1); (try clear hcz11_2); (try clear hcz14_0); (try clear hcz14_1); try clear hcz14_2
          (try clear hcz16_0); (try clear hcz16_1); (try clear hcz16_2); (try clear hfz11_0); (try clear hfz11_1); (try clear hfz11_2); (try clear hfz14_0); (try clear hfz14_1); try clear hfz14_2
          (try clear hfz16_0); (try clear hfz16_1); (try clear hfz16_2); (try clear hx115_0); (try clear hx115_1); (try clear hx115_2); (try clear p115); (try clear p2); try clear q115
          obtain ⟨kq, x34_8, rfl, HA, HJ8, BK116, HB⟩ := hcut
          cases kq with
          | zero => exact absurd HA.out (by simp [qw.j1])
          | succ kj8 =>
           have H := HA.out
           clear HA
           simp only [qw.j1] at H
           by_cases c18 : x34_8 = true
           ·subst c18
            have H1 : (some 13) = some r := by rw [if_pos rfl] at H; exact H
            clear H
            have H := H1
            clear H1
            obtain rfl := Option.some.inj H
            go_wp2
            go_ret
            exact ⟨by first | rfl | (simp [qu, qt] <;> rfl) | (simp [*, qu, qt] <;> rfl), by repeat (first | (with_reducible first | exact HB.out | apply qc | apply qb | apply qd | refine qe ?_ GE116.out) | exact HB.out)⟩
           ·replace c18 := Bool.eq_false_iff.mpr c18
            subst c18
            have H1 : (if (((qn l0 x15_1).f2).size : Int) > 64 then (some 2) else (if 0 ≤ x15_1 then (if x15_1 ≤ (l0.length : Int) then ((some (l0.take (x15_1 : Int).toNat : List (S40))).bind fun y119 => (qw.l1 kj8 l0 l0 (l0.length : Int) x15_1 y119 (y119.length : Int) 0 ((qn l0 x15_1).f0) ((qn l0 x15_1).f1) ((qn l0 x15_1).f2))) else (none)) else (none))) = some r := by rw [if_neg (show ¬ (false = true) by decide)] at H; exact H
            clear H
            have H := H1
            clear H1
            by_cases c19 : (((qn l0 x15_1).f2).size : Int) > 64
            ·rw [if_pos c19] at H
             have c19b0 : decide (64 < (((qn l0 x15_1).f2).size : Int)) = true := decide_eq_true c19
             have c19b1 : decide (64 < ((qn l0 x15_1).f2).size) = true := decide_eq_true yg
             clear c19
             obtain rfl := Option.some.inj H
             have hcz20_0 : wc.cell? ⟨gb116, 0, none⟩ = some (.string ((qn l0 x15_1).f0)) := (ql BK116.out 0).trans rfl
             have hcz20_1 : wc.cell? ⟨gb116, 1, none⟩ = some (.int .i64 ((qn l0 x15_1).f1)) := (ql BK116.out 1).trans rfl
             have hcz20_2 : wc.cell? ⟨gb116, 2, none⟩ = some (.string ((qn l0 x15_1).f2)) := (ql BK116.out 2).trans rfl
             have hfz20_0 := qo BK116.out 0
             have hfz20_1 := qo BK116.out 1
             have hfz20_2 := qo BK116.out 2
             go_wp2
             go_ret
             exact ⟨by first | rfl | (simp [qu, qt] <;> rfl) | (simp [*, qu, qt] <;> rfl), by repeat (first | (with_reducible first | exact HB.out | apply qc | apply qb | apply qd | refine qe ?_ GE116.out) | exact HB.out)⟩
            ·rw [if_neg c19] at H
             have c19b0 : decide (64 < (((qn l0 x15_1).f2).size : Int)) = false := decide_eq_false c19
             have c19b1 : decide (64 < ((qn l0 x15_1).f2).size) = false := decide_eq_false yg
             clear c19
             by_cases c21 : 0 ≤ x15_1
             ·rw [if_pos c21] at H
              have c21b0 := eq_true c21
              have c21b1 : decide (0 ≤ x15_1) = true := decide_eq_true c21
              clear c21
              by_cases c22 : x15_1 ≤ (l0.length : Int)
              ·rw [if_pos c22] at H
               have c22b0 := eq_true c22
               have c22b1 : decide (x15_1 ≤ (l0.length : Int)) = true := decide_eq_true c22
               clear c22
               obtain ⟨y119, hy119⟩ : ∃ y_ : List (S40), y_ = (l0.take (x15_1 : Int).toNat) := ⟨_, rfl⟩
               replace H : (qw.l1 kj8 l0 l0 (l0.length : Int) x15_1 y119 (y119.length : Int) 0 ((qn l0 x15_1).f0) ((qn l0 x15_1).f1) ((qn l0 x15_1).f2)) = some r := by first | (rw [hy119]; with_reducible exact H) | (have H2_ := (Option.bind_some _ _).symm.trans H; rw [hy119]; with_reducible exact H2_) | (have H2_ := (Option.bind_some _ _).symm.trans H; with_reducible exact H2_) | with_reducible exact H | (rw [hy119]; exact H) | exact H
               have Ny119 := qa.mk hy119
               clear hy119
               have H' := qa.mk H
               clear H
               have hcz23_0 : wc.cell? ⟨gb116, 0, none⟩ = some (.string ((qn l0 x15_1).f0)) := (ql BK116.out 0).trans rfl
               have hcz23_1 : wc.cell? ⟨gb116, 1, none⟩ = some (.int .i64 ((qn l0 x15_1).f1)) := (ql BK116.out 1).trans rfl
               have hcz23_2 : wc.cell? ⟨gb116, 2, none⟩ = some (.string ((qn l0 x15_1).f2)) := (ql BK116.out 2).trans rfl
               have hfz23_0 := qo BK116.out 0
               have hfz23_1 := qo BK116.out 1
               have hfz23_2 := qo BK116.out 2
               have q24 : (x15_1 : Int) ≤ ((l0.length : Int) : Int) := of_decide_eq_true cz
               obtain ⟨i024, hi024, _, hsz24, _⟩ := info_parts info40
               have hroom24 : l0.length ≤ c0 := HC0.out
               have hC24 : Kd.C k40 _ (some ad115) l0.length l0 := HR0.out
               have hcut24 := cut_to (P := Tryz.prog) 42 40 .i64 Tryz.underlying42 hi024 (some ad115) l0.length c0 x15_1 (of_decide_eq_true cz) q24 hroom24
               have hr24 := Kd.C_take (m := (x15_1 : Int).toNat) hC24 yg
               have hy24 : y119.length = (x15_1 : Int).toNat := (by rw [Ny119.out, List.length_take]; omega)
               rw [← Ny119.out] at hr24
               rw [← hy24] at hcut24
               have HR122 := qa.mk hr24
               have HC122 := qa.mk (show y119.length ≤ c0 from by omega)
               clear hr24 hC24 hroom24 hi024 hsz24
               have KY24 := qa.mk hy24
               clear hy24
               replace q24 := eq_true q24
               go_wp2
               go_loopg [43] kj8 (fun kq v43 w' => ∃ (x43_3 : Int), v43 = .int .i64 x43_3 ∧ qa (qw.l1 kq l0 l0 (l0.length : Int) x15_1 y119 (y119.length : Int) x43_3 ((qn l0 x15_1).f0) ((qn l0 x15_1).f1) ((qn l0 x15_1).f2) = some r) ∧ qa (kq ≤ kj8) ∧ qa (w'.heap[gb116]? = some (.cells #[.string ((qn l0 x15_1).f0), .int .i64 ((qn l0 x15_1).f1), .string ((qn l0 x15_1).f2)] 40 (0, 0))) ∧ qa (Below w.heap.size w w'))
               case atStart => exact ⟨(0), yf, H', ⟨Nat.le_refl _⟩, ⟨by (with_reducible repeat (first | refine qg ?_ _ | refine qi ?_ | refine qf ?_ _)); exact BK116.out⟩, ⟨by repeat (first | (with_reducible first | exact HB.out | apply qc | apply qb | apply qd | refine qe ?_ GE116.out) | exact HB.out)⟩⟩
               case round =>
                clear H'
                (try clear c1); (try clear p1); (try clear q1); (try clear hx1); (try clear c2); (try clear c2b0); (try clear c2b1); (try clear c2b2); (try clear p2); (try clear q2); try clear c3
                (try clear c3b0); (try clear c3b1); (try clear c4); (try clear c4b0); (try clear c5); (try clear c5b0); (try clear c6); (try clear c6b0); (try clear c7); (try clear c8); try clear p11
                (try clear q11); (try clear hx11); (try clear c13); (try clear c13b0); (try clear c13b1); (try clear c18); (try clear c19); (try clear c19b0); (try clear c19b1); try clear c21
                (try clear c21b0); (try clear c21b1); (try clear c22); (try clear c22b0); (try clear c22b1); (try clear q24); (try clear hcz11_0); (try clear hcz11_1); try clear hcz11_2
                (try clear hcz14_0); (try clear hcz14_1); (try clear hcz14_2); (try clear hcz16_0); (try clear hcz16_1); (try clear hcz16_2); (try clear hcz20_0); (try clear hcz20_1); try clear hcz20_2
                (try clear hcz23_0); (try clear hcz23_1); (try clear hcz23_2); (try clear hfz11_0); (try clear hfz11_1); (try clear hfz11_2); (try clear hfz14_0); (try clear hfz14_1); try clear hfz14_2
                (try clear hfz16_0); (try clear hfz16_1); (try clear hfz16_2); (try clear hfz20_0); (try clear hfz20_1); (try clear hfz20_2); (try clear hfz23_0); (try clear hfz23_1); try clear hfz23_2
                (try clear hx115_0); (try clear hx115_1); (try clear hx115_2); (try clear p1); (try clear p11); (try clear p115); (try clear p2); (try clear q1); (try clear q11); try clear q115
                try clear q24
                obtain ⟨x43_3, rfl, HA, HK3, BK116, HB⟩ := hrel
                cases gk with
                | zero => exact absurd HA.out (by simp [qw.l1])
                | succ k3 =>
                 have H := HA.out
                 clear HA
                 simp only [qw.l1] at H
                 by_cases c25 : x43_3 < (y119.length : Int)
                 ·rw [if_pos c25] at H
                  have c25b0 : decide (x43_3 < (y119.length : Int)) = true := decide_eq_true c25
                  clear c25
                  by_cases c26 : 0 ≤ x43_3
                  ·rw [if_pos c26] at H
                   have c26b0 : decide (0 ≤ x43_3) = true := decide_eq_true c26
                   clear c26
                   by_cases c27 : x43_3 < (y119.length : Int)
                   ·rw [if_pos c27] at H
                    have c27b0 : decide (x43_3 < (y119.length : Int)) = true := decide_eq_true c27
                    clear c27
                    by_cases c28 : ((qn y119 x43_3).f0).toList = ((qn l0 x15_1).f0).toList
                    ·rw [if_pos c28] at H
                     have c28b0 : (((qn y119 x43_3).f0).toList == ((qn l0 x15_1).f0).toList) = true := beq_iff_eq.mpr c28
                     have c28b1 : (((qn y119 x43_3).f0).toList != ((qn l0 x15_1).f0).toList) = false := bne_eq_false_iff_eq.mpr c28
                     clear c28
                     obtain rfl := Option.some.inj H
                     have p123 : 0 ≤ (x43_3 : Int) := of_decide_eq_true cz
                     have q123 : x43_3 < (y119.length : Int) := of_decide_eq_true cz
                     obtain ⟨ad123, e123, hx123_0, hx123_1, hx123_2⟩ := k5 HR122.out x43_3 p123 q123
                     obtain rfl : ad115 = ad123 := (by injection e123)
                     replace hx123_0 := (HB.out.cell (World.block_lt_of_cell? w _ hx123_0)).trans hx123_0
                     replace hx123_1 := (HB.out.cell (World.block_lt_of_cell? w _ hx123_1)).trans hx123_1
                     replace hx123_2 := (HB.out.cell (World.block_lt_of_cell? w _ hx123_2)).trans hx123_2
                     replace p123 := eq_true p123
                     replace q123 := eq_true q123
                     go_wp2_with (first | ((with_reducible refine zl (N := 6) rfl ?_); refine zo ?hg (N := 6) ?hd (cs := #[.string (⟨#[]⟩ : ByteArray), .int .i64 0, .string (⟨#[]⟩ : ByteArray)]) (t := 40) ?hr ?_; (case hd => rfl); (case hg => rfl); (case hr => first | (go_simp; done) | (go_simp; rfl)); intro gb124 hg w29 hbox hb; have n0_ := qa.mk (q9 (g := gb116) (o := .cells #[.string ((qn l0 x15_1).f0), .int .i64 ((qn l0 x15_1).f1), .string ((qn l0 x15_1).f2)] 40 (0, 0)) fq hb); have n1_ := qa.mk (qp yu hb); have n2_ := qa.mk (hbox); have n3_ := qa.mk ((by rw [hg]; exact (qr yu) : w.heap.size ≤ gb124)); have n4_ := qa.mk ((by rw [hg]; exact (qr yu) : w.heap.size ≤ gb124)); have n5_ := qa.mk ((by rw [hg]; exact Nat.ne_of_lt (zz (g := gb116) (o := .cells #[.string ((qn l0 x15_1).f0), .int .i64 ((qn l0 x15_1).f1), .string ((qn l0 x15_1).f2)] 40 (0, 0)) fq) : gb116 ≠ gb124)); have n6_ := qa.mk ((by rw [hg]; exact Nat.ne_of_gt (zz (g := gb116) (o := .cells #[.string ((qn l0 x15_1).f0), .int .i64 ((qn l0 x15_1).f1), .string ((qn l0 x15_1).f2)] 40 (0, 0)) fq) : gb124 ≠ gb116)); clear BK116; clear HB; have BK116 := n0_; have HB := n1_; have BK124 := n2_; have GW124 := n3_; have GE124 := n4_; have NB116_124 := n5_; have NB124_116 := n6_; clear n0_ n1_ n2_ n3_ n4_ n5_ n6_; clear hb hbox hg; have hnb30 := NB124_116.out; have hnc30 := NB116_124.out; have hcz31_0 : w29.cell? ⟨gb124, 0, none⟩ = some (.string (⟨#[]⟩ : ByteArray)) := (ql BK124.out 0).trans rfl; have hcz31_1 : w29.cell? ⟨gb124, 1, none⟩ = some (.int .i64 0) := (ql BK124.out 1).trans rfl; have hcz31_2 : w29.cell? ⟨gb124, 2, none⟩ = some (.string (⟨#[]⟩ : ByteArray)) := (ql BK124.out 2).trans rfl; have hfz31_0 := qo BK124.out 0; have hfz31_1 := qo BK124.out 1; have hfz31_2 := qo BK124.out 2; have hcz32_0 : w29.cell? ⟨gb116, 0, none⟩ = some (.string ((qn l0 x15_1).f0)) := (ql BK116.out 0).trans rfl; have hcz32_1 : w29.cell? ⟨gb116, 1, none⟩ = some (.int .i64 ((qn l0 x15_1).f1)) := (ql BK116.out 1).trans rfl; have hcz32_2 : w29.cell? ⟨gb116, 2, none⟩ = some (.string ((qn l0 x15_1).f2)) := (ql BK116.out 2).trans rfl; have hfz32_0 := qo BK116.out 0; have hfz32_1 := qo BK116.out 1; have hfz32_2 := qo BK116.out 2))
                     go_ret
                     exact ⟨by first | rfl | (simp [qu, qt] <;> rfl) | (simp [*, qu, qt] <;> rfl), by repeat (first | (with_reducible first | exact HB.out | apply qc | apply qb | apply qd | refine qe ?_ GE116.out | refine qe ?_ GE124.out) | exact HB.out)⟩
                    ·rw [if_neg c28] at H
                     have c28b0 : (((qn y119 x43_3).f0).toList == ((qn l0 x15_1).f0).toList) = false := beq_eq_false_iff_ne.mpr c28
                     have c28b1 : (((qn y119 x43_3).f0).toList != ((qn l0 x15_1).f0).toList) = true := bne_iff_ne.mpr c28
                     have H' := qa.mk H
                     clear H
                     have p123 : 0 ≤ (x43_3 : Int) := of_decide_eq_true cz
                     have q123 : x43_3 < (y119.length : Int) := of_decide_eq_true cz
                     obtain ⟨ad123, e123, hx123_0, hx123_1, hx123_2⟩ := k5 HR122.out x43_3 p123 q123
                     obtain rfl : ad115 = ad123 := (by injection e123)
                     replace hx123_0 := (HB.out.cell (World.block_lt_of_cell? w _ hx123_0)).trans hx123_0
                     replace hx123_1 := (HB.out.cell (World.block_lt_of_cell? w _ hx123_1)).trans hx123_1
                     replace hx123_2 := (HB.out.cell (World.block_lt_of_cell? w _ hx123_2)).trans hx123_2
                     replace p123 := eq_true p123
                     replace q123 := eq_true q123
                     go_wp2_with (first | ((with_reducible refine zl (N := 6) rfl ?_); refine zo ?hg (N := 6) ?hd (cs := #[.string (⟨#[]⟩ : ByteArray), .int .i64 0, .string (⟨#[]⟩ : ByteArray)]) (t := 40) ?hr ?_; (case hd => rfl); (case hg => rfl); (case hr => first | (go_simp; done) | (go_simp; rfl)); intro gb124 hg w33 hbox hb; have n0_ := qa.mk (q9 (g := gb116) (o := .cells #[.string ((qn l0 x15_1).f0), .int .i64 ((qn l0 x15_1).f1), .string ((qn l0 x15_1).f2)] 40 (0, 0)) fq hb); have n1_ := qa.mk (qp yu hb); have n2_ := qa.mk (hbox); have n3_ := qa.mk ((by rw [hg]; exact (qr yu) : w.heap.size ≤ gb124)); have n4_ := qa.mk ((by rw [hg]; exact (qr yu) : w.heap.size ≤ gb124)); have n5_ := qa.mk ((by rw [hg]; exact Nat.ne_of_lt (zz (g := gb116) (o := .cells #[.string ((qn l0 x15_1).f0), .int .i64 ((qn l0 x15_1).f1), .string ((qn l0 x15_1).f2)] 40 (0, 0)) fq) : gb116 ≠ gb124)); have n6_ := qa.mk ((by rw [hg]; exact Nat.ne_of_gt (zz (g := gb116) (o := .cells #[.string ((qn l0 x15_1).f0), .int .i64 ((qn l0 x15_1).f1), .string ((qn l0 x15_1).f2)] 40 (0, 0)) fq) : gb124 ≠ gb116)); clear BK116; clear HB; have BK116 := n0_; have HB := n1_; have BK124 := n2_; have GW124 := n3_; have GE124 := n4_; have NB116_124 := n5_; have NB124_116 := n6_; clear n0_ n1_ n2_ n3_ n4_ n5_ n6_; clear hb hbox hg; have hnb34 := NB124_116.out; have hnc34 := NB116_124.out; have hcz35_0 : w33.cell? ⟨gb124, 0, none⟩ = some (.string (⟨#[]⟩ : ByteArray)) := (ql BK124.out 0).trans rfl; have hcz35_1 : w33.cell? ⟨gb124, 1, none⟩ = some (.int .i64 0) := (ql BK124.out 1).trans rfl; have hcz35_2 : w33.cell? ⟨gb124, 2, none⟩ = some (.string (⟨#[]⟩ : ByteArray)) := (ql BK124.out 2).trans rfl; have hfz35_0 := qo BK124.out 0; have hfz35_1 := qo BK124.out 1; have hfz35_2 := qo BK124.out 2; have hcz36_0 : w33.cell? ⟨gb116, 0, none⟩ = some (.string ((qn l0 x15_1).f0)) := (ql BK116.out 0).trans rfl; have hcz36_1 : w33.cell? ⟨gb116, 1, none⟩ = some (.int .i64 ((qn l0 x15_1).f1)) := (ql BK116.out 1).trans rfl; have hcz36_2 : w33.cell? ⟨gb116, 2, none⟩ = some (.string ((qn l0 x15_1).f2)) := (ql BK116.out 2).trans rfl; have hfz36_0 := qo BK116.out 0; have hfz36_1 := qo BK116.out 1; have hfz36_2 := qo BK116.out 2))
                     go_roundg k3
                     case measure => have := HK1.out; have := HJ8.out; have := HK3.out; omega
                     case rel => exact ⟨(wrap64 (x43_3 + 1)), yf, H', ⟨by have := HK1.out; have := HJ8.out; have := HK3.out; omega⟩, ⟨by (with_reducible repeat (first | refine qg ?_ _ | refine qi ?_ | refine qf ?_ _)); refine xt ?_ NB116_124.out _; (with_reducible repeat (first | refine qg ?_ _ | refine qi ?_ | refine qf ?_ _)); refine xt ?_ NB116_124.out _; (with_reducible repeat (first | refine qg ?_ _ | refine qi ?_ | refine qf ?_ _)); refine xt ?_ NB116_124.out _; (with_reducible repeat (first | refine qg ?_ _ | refine qi ?_ | refine qf ?_ _)); exact BK116.out⟩, ⟨by repeat (first | (with_reducible first | exact HB.out | apply qc | apply qb | apply qd | refine qe ?_ GE116.out | refine qe ?_ GE124.out) | exact HB.out)⟩⟩
                   ·rw [if_neg c27] at H
                    exact absurd H yt
                  ·rw [if_neg c26] at H
                   exact absurd H yt
                 ·rw [if_neg c25] at H
                  have c25b0 : decide (x43_3 < (y119.length : Int)) = false := decide_eq_false c25
                  clear c25
                  have H' := qa.mk H
                  clear H
                  go_wp2
                  go_roundg k3
                  case measure => have := HK1.out; have := HJ8.out; have := HK3.out; omega
                  case rel => exact ⟨(wrap64 (x15_1 + 1)), yf, H', ⟨by have := HK1.out; have := HJ8.out; have := HK3.out; omega⟩, ⟨by repeat (first | (with_reducible first | exact HB.out | apply qc | apply qb | apply qd | refine qe ?_ GE116.out) | exact HB.out)⟩⟩
              ·rw [if_neg c22] at H
               exact absurd H yt
             ·rw [if_neg c21] at H
              exact absurd H yt
        ·replace c8 := Bool.eq_false_iff.mpr c8
         subst c8
         have H1 : (some 11) = some r := by rw [if_neg (show ¬ (false = true) by decide)] at H; exact H
         clear H
         have H := H1
         clear H1
         obtain rfl := Option.some.inj H
         have p115 : 0 ≤ (x15_1 : Int) := of_decide_eq_true cz
         have q115 : x15_1 < (l0.length : Int) := of_decide_eq_true cz
         obtain ⟨ad115, e115, hx115_0, hx115_1, hx115_2⟩ := k5 HR0.out x15_1 p115 q115
         cases e115
         replace hx115_0 := (HB.out.cell (World.block_lt_of_cell? w _ hx115_0)).trans hx115_0
         replace hx115_1 := (HB.out.cell (World.block_lt_of_cell? w _ hx115_1)).trans hx115_1
         replace hx115_2 := (HB.out.cell (World.block_lt_of_cell? w _ hx115_2)).trans hx115_2
         replace p115 := eq_true p115
         replace q115 := eq_true q115
         go_wp2_with (first | ((with_reducible refine zl (N := 4) rfl ?_); refine zo ?hg (N := 4) ?hd (cs := #[.string (⟨#[]⟩ : ByteArray), .int .i64 0, .string (⟨#[]⟩ : ByteArray)]) (t := 40) ?hr ?_; (case hd => rfl); (case hg => rfl); (case hr => first | (go_simp; done) | (go_simp; rfl)); intro gb116 hg w37 hbox hb; have n0_ := qa.mk (qp cu hb); have n1_ := qa.mk (hbox); have n2_ := qa.mk ((by rw [hg]; exact (qr cu) : w.heap.size ≤ gb116)); have n3_ := qa.mk ((by rw [hg]; exact (qr cu) : w.heap.size ≤ gb116)); clear HB; have HB := n0_; have BK116 := n1_; have GW116 := n2_; have GE116 := n3_; clear n0_ n1_ n2_ n3_; clear hb hbox hg; have hcz38_0 : w37.cell? ⟨gb116, 0, none⟩ = some (.string (⟨#[]⟩ : ByteArray)) := (ql BK116.out 0).trans rfl; have hcz38_1 : w37.cell? ⟨gb116, 1, none⟩ = some (.int .i64 0) := (ql BK116.out 1).trans rfl; have hcz38_2 : w37.cell? ⟨gb116, 2, none⟩ = some (.string (⟨#[]⟩ : ByteArray)) := (ql BK116.out 2).trans rfl; have hfz38_0 := qo BK116.out 0; have hfz38_1 := qo BK116.out 1; have hfz38_2 := qo BK116.out 2) | ((with_reducible refine zn (f := 74) rfl ?_); refine kd (some 22) rfl rfl Tryz.func74 yj rfl #[.string ((qn l0 x15_1).f0)] rfl yc ?_; (with_reducible refine (xn.calls k1 ((qn l0 x15_1).f0) false _ ?side1 A7.out).mono ?_); (case side1 => exact LibHeld.below HG.out yu); rintro e w39 ⟨rfl, hb⟩; refine ⟨_, rfl, ?_⟩; have n0_ := qa.mk (q9 (g := gb116) (o := .cells #[.string ((qn l0 x15_1).f0), .int .i64 ((qn l0 x15_1).f1), .string ((qn l0 x15_1).f2)] 40 (0, 0)) (by (with_reducible repeat (first | refine qg ?_ _ | refine qi ?_ | refine qf ?_ _)); refine zu (cs := #[.string ((qn l0 x15_1).f0), .int .i64 ((qn l0 x15_1).f1), .string (⟨#[]⟩ : ByteArray)]) ?_ 2 _ rfl; (with_reducible repeat (first | refine qg ?_ _ | refine qi ?_ | refine qf ?_ _)); refine zu (cs := #[.string ((qn l0 x15_1).f0), .int .i64 0, .string (⟨#[]⟩ : ByteArray)]) ?_ 1 _ rfl; (with_reducible repeat (first | refine qg ?_ _ | refine qi ?_ | refine qf ?_ _)); refine zu (cs := #[.string (⟨#[]⟩ : ByteArray), .int .i64 0, .string (⟨#[]⟩ : ByteArray)]) ?_ 0 _ rfl; (with_reducible repeat (first | refine qg ?_ _ | refine qi ?_ | refine qf ?_ _)); exact BK116.out) hb); have n1_ := qa.mk (qp yu hb); clear BK116; clear HB; have BK116 := n0_; have HB := n1_; clear n0_ n1_; (try clear hb); (try clear hb2); (try clear hk); (try clear hi)))
         go_ret
         exact ⟨by first | rfl | (simp [qu, qt] <;> rfl) | (simp [*, qu, qt] <;> rfl), by repeat (first | (with_reducible first | exact HB.out | apply qc | apply qb | apply qd | refine qe ?_ GE116.out) | exact HB.out)⟩
       ·rw [if_neg c6] at H
        exact absurd H yt
      ·rw [if_neg c5] at H
       exact absurd H yt
     ·rw [if_neg c4] at H
      have c4b0 : decide (x15_1 < (l0.length : Int)) = false := decide_eq_false c4
      clear c4
      obtain rfl := Option.some.inj H
      go_wp2
      go_ret
      exact ⟨by first | rfl | (simp [qu, qt] <;> rfl) | (simp [*, qu, qt] <;> rfl), by repeat (first | (with_reducible first | exact HB.out | apply qc | apply qb | apply qd) | exact HB.out)⟩
end Go.Proofs.YthdoohfdminfgaaGreatDoor.C
end
