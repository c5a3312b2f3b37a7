/- Words, walks and plain laws that the claim rests on, gathered. -/
import Derived.Shelf.Strings.Builder1
import Derived.Shelf.Strings.Builder2
import Derived.Shelf.Strings.OnBuilder
import Derived.Shelf.Small.Bits
import Derived.Shelf.Small.Strs
import Derived.Shelf.Small.Wraps
import Derived.Shelf.Strings.BuilderF
import Derived.Shelf.Strings.BuilderK
import Derived.Shelf.Utf8.RuneCount
import Derived.Shelf.Strings.Builder2Cap
import Derived.Shelf.Strconv.Itoa0
import Derived.Shelf.Strings.Search1
import Derived.Shelf.Strings.Search2
import Derived.Shelf.Strings.Search3
import Derived.Shelf.Strings.Cut
import Derived.Shelf.Strings.Count
import Derived.Shelf.LaysM
import Derived.Shelf.Strings.Shaped
import Derived.Shelf.Sort.Plain
import Derived.Shelf.Strings.Prefix
import Derived.Shelf.Strings.Split
import Derived.Shelf.Strings.SplitShaped
import Derived.Shelf.Unicode.Decode
import Derived.Shelf.Strings.RuneCount
import Derived.Shelf.Strings.Explode
import Derived.Shelf.Unicode.DecodeSlow
import Derived.Shelf.Unicode.DecodeAny
import Derived.Shelf.Strings.BuilderCap
import Derived.Shelf.Slices.In.SortNone
import Derived.Shelf.Slices.In.SortNone2
import Derived.Test.YtlamfnaoemingaaGreatDoorProg
import Derived.Below
import Derived.Deep.Draws
import Derived.Deep.AppendLies
import Derived.Maps.AppendAt
import Derived.OwnWalk
import Derived.Laws.BytesArg
import Derived.Laws.MakeOwn
import Derived.Laws.OwnMore
import Derived.Deep.OwnRows
import Derived.Tactics
import Derived.Lib.ConvBytes
import Derived.Laws.Slices
import Derived.WalkKit
import Derived.KernelRfl
import Derived.RowKit3
import Derived.Deep.LoopGhost
import Derived.Deep.QuietTactic
import Derived.BigQuiet
import Derived.WideLaws
import Derived.Deep.DeepCutAuto
import Derived.Deep.CutBlock
import Derived.Deep.RegionHeld3
import Derived.Laws.Rows
import Derived.Lib.AppendStr
import Derived.ArgAppend
import Derived.Laws.IdiomCopy
import Derived.RowKit
import Derived.WalkSpells
import Derived.OrdersHeld
import Derived.Laws.BitsLemmas
import Derived.WalkLawsBesides
import Derived.Laws.StructEq
import Derived.Test.YtlamfnaoemingaaGreatDoorGS0
import Derived.Test.YtlamfnaoemingaaGreatDoorGS1
import Derived.Test.YtlamfnaoemingaaGreatDoorGS2
import Derived.Test.YtlamfnaoemingaaGreatDoorGS3
import Derived.Test.YtlamfnaoemingaaGreatDoorGS4
import Derived.Test.YtlamfnaoemingaaGreatDoorGS6
import Derived.Test.YtlamfnaoemingaaGreatDoorGS7
import Derived.Test.YtlamfnaoemingaaGreatDoorGSc
namespace Go.Proofs.YtlamfnaoemingaaGreatDoorW.PrintLast
end Go.Proofs.YtlamfnaoemingaaGreatDoorW.PrintLast
namespace Go.Proofs.YtlamfnaoemingaaGreatDoorW.PrintMore
end Go.Proofs.YtlamfnaoemingaaGreatDoorW.PrintMore
namespace Go.Proofs.YtlamfnaoemingaaGreatDoorW.PrintWords
end Go.Proofs.YtlamfnaoemingaaGreatDoorW.PrintWords
section
namespace Go.Proofs.YtlamfnaoemingaaGreatDoor.C
open Go.RowKit Go.Proofs.YtlamfnaoemingaaGreatDoorW.PrintWords Go.Proofs.YtlamfnaoemingaaGreatDoorW.PrintLast Go.Proofs.YtlamfnaoemingaaGreatDoorW.PrintMore
attribute [local go_sem] zw zx xe xd zn zp zy zz
set_option linter.unusedVariables false
set_option linter.unusedSimpArgs false
mutual
def qk.j0 : Nat → ByteArray → ByteArray → ByteArray → Bool → Option (Bool)
 | 0, _, _, _, _ => none
 | k + 1, x0, x5, x6, x27 => if x27 = true then ((z6.f x0).bind fun bt232 => (if x6.size ≤ 9223372036854775807 then (qk.l0 k x5 x6 bt232.1 bt232.2 ((bytesOf x6).length : Int) 0) else (none))) else (if (x0.size : Int) = (x5.size : Int) then ((xn.f x0).bind fun t237 => (if t237 = true then (qk.j2 k x0 x5 x6) else (some false))) else (some false))
def qk.j2 : Nat → ByteArray → ByteArray → ByteArray → Option (Bool)
 | 0, _, _, _ => none
 | k + 1, x0, x5, x6 => if x6.size ≤ 9223372036854775807 then (qk.l1 k x0 x5 x6 ((bytesOf x6).length : Int) 0) else (none)
def qk.l1 : Nat → ByteArray → ByteArray → ByteArray → Int → Int → Option (Bool)
 | 0, _, _, _, _, _ => none
 | k + 1, x0, x5, x6, x61, x62 => if x62 < x61 then (if 0 ≤ x62 then (if x62 < (x0.size : Int) then (if x62 < (x6.size : Int) then (if x62 < (x5.size : Int) then (if (Go.bits .and .u8 (bt x0 x62) (bt x6 x62)) = (bt x5 x62) then (qk.l1 k x0 x5 x6 x61 (wrap64 (x62 + 1))) else (some false)) else (none)) else (none)) else (none)) else (none)) else (some true)
def qk.l0 : Nat → ByteArray → ByteArray → ByteArray → ByteArray → Int → Int → Option (Bool)
 | 0, _, _, _, _, _, _ => none
 | k + 1, x5, x6, x7, x8, x35, x36 => if x36 < x35 then (if 0 ≤ x36 then (if x36 < (x6.size : Int) then (if x36 < (x8.size : Int) then (if (Go.bits .andNot .u8 (bt x6 x36) (bt x8 x36)) = 0 then (qk.l0 k x5 x6 x7 x8 x35 (wrap64 (x36 + 1))) else (some false)) else (none)) else (none)) else (none)) else (qk.j2 k x7 x5 x6)
end
def qk.f (k : Nat) (a0 : ByteArray) (a1 : ByteArray) : Option (Bool) := (qr.f k a1).bind fun t228 => (if t228 = true then ((z6.f a1).bind fun bt229 => (if (a0.size : Int) = (a1.size : Int) then ((qr.f k a0).bind fun t231 => (qk.j0 k a0 bt229.1 bt229.2 t231)) else (qk.j0 k a0 bt229.1 bt229.2 false))) else (some false))
theorem qk.zv : ∀ k, (∀ y0 y1 y2 y3, LeO (qk.j0 k y0 y1 y2 y3) (qk.j0 (k + 1) y0 y1 y2 y3)) ∧ (∀ y0 y1 y2, LeO (qk.j2 k y0 y1 y2) (qk.j2 (k + 1) y0 y1 y2)) ∧ (∀ y0 y1 y2 y3 y4, LeO (qk.l1 k y0 y1 y2 y3 y4) (qk.l1 (k + 1) y0 y1 y2 y3 y4)) ∧ (∀ y0 y1 y2 y3 y4 y5, LeO (qk.l0 k y0 y1 y2 y3 y4 y5) (qk.l0 (k + 1) y0 y1 y2 y3 y4 y5))
 | 0 => ⟨fun _ _ _ _ r h => by simp [qk.j0] at h, fun _ _ _ r h => by simp [qk.j2] at h, fun _ _ _ _ _ r h => by simp [qk.l1] at h, fun _ _ _ _ _ _ r h => by simp [qk.l0] at h⟩
 | k + 1 => by
  obtain ⟨ih0, ih1, ih2, ih3⟩ := qk.zv k
  refine ⟨?_, ?_, ?_, ?_⟩
  ·intro y0 y1 y2 y3
   unfold qk.j0
   repeat' first
   | (with_reducible exact ih0 _ _ _ _)
   | (with_reducible exact ih1 _ _ _)
   | (with_reducible exact ih2 _ _ _ _ _)
   | (with_reducible exact ih3 _ _ _ _ _ _)
   | (with_reducible exact qr.mono _ _)
   | (with_reducible exact LeO.refl _)
   | (with_reducible exact LeO.none _)
   | (with_reducible refine LeO.ite ?_ ?_)
   | (with_reducible refine LeO.bind ?_ (fun _ => ?_))
  ·intro y0 y1 y2
   unfold qk.j2
   repeat' first
   | (with_reducible exact ih0 _ _ _ _)
   | (with_reducible exact ih1 _ _ _)
   | (with_reducible exact ih2 _ _ _ _ _)
   | (with_reducible exact ih3 _ _ _ _ _ _)
   | (with_reducible exact qr.mono _ _)
   | (with_reducible exact LeO.refl _)
   | (with_reducible exact LeO.none _)
   | (with_reducible refine LeO.ite ?_ ?_)
   | (with_reducible refine LeO.bind ?_ (fun _ => ?_))
  ·intro y0 y1 y2 y3 y4
   unfold qk.l1
   repeat' first
   | (with_reducible exact ih0 _ _ _ _)
   | (with_reducible exact ih1 _ _ _)
   | (with_reducible exact ih2 _ _ _ _ _)
   | (with_reducible exact ih3 _ _ _ _ _ _)
   | (with_reducible exact qr.mono _ _)
   | (with_reducible exact LeO.refl _)
   | (with_reducible exact LeO.none _)
   | (with_reducible refine LeO.ite ?_ ?_)
   | (with_reducible refine LeO.bind ?_ (fun _ => ?_))
  ·intro y0 y1 y2 y3 y4 y5
   unfold qk.l0
   repeat' first
   | (with_reducible exact ih0 _ _ _ _)
   | (with_reducible exact ih1 _ _ _)
   | (with_reducible exact ih2 _ _ _ _ _)
   | (with_reducible exact ih3 _ _ _ _ _ _)
   | (with_reducible exact qr.mono _ _)
   | (with_reducible exact LeO.refl _)
   | (with_reducible exact LeO.none _)
   | (with_reducible refine LeO.ite ?_ ?_)
   | (with_reducible refine LeO.bind ?_ (fun _ => ?_))
theorem qk.mono : ∀ a0 a1 k, LeO (qk.f k a0 a1) (qk.f (k + 1) a0 a1) := by
 intro a0 a1 k
 obtain ⟨ih0, ih1, ih2, ih3⟩ := qk.zv k
 unfold qk.f
 repeat' first
   | (with_reducible exact ih0 _ _ _ _)
   | (with_reducible exact ih1 _ _ _)
   | (with_reducible exact ih2 _ _ _ _ _)
   | (with_reducible exact ih3 _ _ _ _ _ _)
   | (with_reducible exact qr.mono _ _)
   | (with_reducible exact LeO.refl _)
   | (with_reducible exact LeO.none _)
   | (with_reducible refine LeO.ite ?_ ?_)
   | (with_reducible refine LeO.bind ?_ (fun _ => ?_))
set_option maxHeartbeats 8000000 in
set_option maxRecDepth 100000 in
theorem qk.calls (k : Nat) (a0 : ByteArray) (a1 : ByteArray) (r : Bool) (w : World) (h : qk.f k a0 a1 = some r) :
  Calls Tryz.prog 87 #[.string a0, .string a1] w fun e w' => e = .returned (.bool r) ∧ Below w.heap.size w w' := by
 have HB := qd.mk (Below.refl w.heap.size w)
 have H : ((qr.f k a1).bind fun t228 => (if t228 = true then ((z6.f a1).bind fun bt229 => (if (a0.size : Int) = (a1.size : Int) then ((qr.f k a0).bind fun t231 => (qk.j0 k a0 bt229.1 bt229.2 t231)) else (qk.j0 k a0 bt229.1 bt229.2 false))) else (some false))) = some r := h
 clear h
 replace H := Option.bind_eq_some_iff.mp H
 obtain ⟨t228, A30, H⟩ := H
 replace H : (if t228 = true then ((z6.f a1).bind fun bt229 => (if (a0.size : Int) = (a1.size : Int) then ((qr.f k a0).bind fun t231 => (qk.j0 k a0 bt229.1 bt229.2 t231)) else (qk.j0 k a0 bt229.1 bt229.2 false))) else (some false)) = some r := H
 have A3 := qd.mk A30
 clear A30
 by_cases c4 : t228 = true
 ·subst c4
  have H1 : ((z6.f a1).bind fun bt229 => (if (a0.size : Int) = (a1.size : Int) then ((qr.f k a0).bind fun t231 => (qk.j0 k a0 bt229.1 bt229.2 t231)) else (qk.j0 k a0 bt229.1 bt229.2 false))) = some r := by rw [if_pos rfl] at H; exact H
  clear H
  have H := H1
  clear H1
  replace H := Option.bind_eq_some_iff.mp H
  obtain ⟨⟨t229, t230⟩, A50, H⟩ := H
  replace H : (if (a0.size : Int) = (a1.size : Int) then ((qr.f k a0).bind fun t231 => (qk.j0 k a0 t229 t230 t231)) else (qk.j0 k a0 t229 t230 false)) = some r := H
  have A5 := qd.mk A50
  clear A50
  have HC6 := qd.mk H
  clear H
  go_enter Tryz.func87, Tryz.ntmps87
  go_upto_region 4 with (first | (go_at_call 108; (with_reducible refine (qr.calls k a1 true _ A3.out).mono ?_); rintro e w' ⟨rfl, ⟨nd, rfl⟩⟩; (try first | exact ⟨rfl, _, World.drewN_drewN _ _ _⟩ | exact ⟨rfl, _, Eq.trans (World.drewN_drewN _ _ _) (congrArg (World.drewN _) (Nat.add_assoc _ _ _))⟩)) | (go_at_call 121; (with_reducible refine (z6.calls a1 t229 t230 _ A5.out).mono ?_); rintro e w' ⟨rfl, ⟨nd, rfl⟩⟩; (try first | exact ⟨rfl, _, World.drewN_drewN _ _ _⟩ | exact ⟨rfl, _, Eq.trans (World.drewN_drewN _ _ _) (congrArg (World.drewN _) (Nat.add_assoc _ _ _))⟩)))
  repeat (go_quiet (first | (go_at_call 108; (with_reducible refine (qr.calls k a1 true _ A3.out).mono ?_); rintro e w' ⟨rfl, ⟨nd, rfl⟩⟩; (try first | exact ⟨rfl, _, World.drewN_drewN _ _ _⟩ | exact ⟨rfl, _, Eq.trans (World.drewN_drewN _ _ _) (congrArg (World.drewN _) (Nat.add_assoc _ _ _))⟩)) | (go_at_call 121; (with_reducible refine (z6.calls a1 t229 t230 _ A5.out).mono ?_); rintro e w' ⟨rfl, ⟨nd, rfl⟩⟩; (try first | exact ⟨rfl, _, World.drewN_drewN _ _ _⟩ | exact ⟨rfl, _, Eq.trans (World.drewN_drewN _ _ _) (congrArg (World.drewN _) (Nat.add_assoc _ _ _))⟩))); go_upto_region 4 with (first | (go_at_call 108; (with_reducible refine (qr.calls k a1 true _ A3.out).mono ?_); rintro e w' ⟨rfl, ⟨nd, rfl⟩⟩; (try first | exact ⟨rfl, _, World.drewN_drewN _ _ _⟩ | exact ⟨rfl, _, Eq.trans (World.drewN_drewN _ _ _) (congrArg (World.drewN _) (Nat.add_assoc _ _ _))⟩)) | (go_at_call 121; (with_reducible refine (z6.calls a1 t229 t230 _ A5.out).mono ?_); rintro e w' ⟨rfl, ⟨nd, rfl⟩⟩; (try first | exact ⟨rfl, _, World.drewN_drewN _ _ _⟩ | exact ⟨rfl, _, Eq.trans (World.drewN_drewN _ _ _) (congrArg (World.drewN _) (Nat.add_assoc _ _ _))⟩))))
  (try simp only [Act.put, List.setIfInBounds_toArray, List.set_cons_zero, List.set_cons_succ])
  go_cut [27] (fun v27 wc => ∃ (kq : Nat) (x27_5 : Bool), v27 = .bool x27_5 ∧ qd (qk.j0 kq a0 t229 t230 x27_5 = some r) ∧ qd (kq ≤ k) ∧ qd (Below w.heap.size w wc))
  case first =>
   have H := HC6.out
   clear HC6
   by_cases c7 : (a0.size : Int) = (a1.size : Int)
   ·rw [if_pos c7] at H
    have c7b0 : ((a0.size : Int) == (a1.size : Int)) = true := beq_iff_eq.mpr c7
    have c7b1 : ((a0.size : Int) != (a1.size : Int)) = false := bne_eq_false_iff_eq.mpr c7
    have c7b2 : (a0.size == a1.size) = true := by first | simpa using c7 | (simp at c7 ⊢; omega)
    clear c7
    (first | rw [c7b0] | (simp only [zg, zi]; rw [c7b0]) | skip)
    replace H := Option.bind_eq_some_iff.mp H
    obtain ⟨t231, A80, H⟩ := H
    replace H : (qk.j0 k a0 t229 t230 t231) = some r := H
    have A8 := qd.mk A80
    clear A80
    have H' := qd.mk H
    clear H
    go_wp2_with (first | (go_at_call 108; (with_reducible refine (qr.calls k a0 t231 _ A8.out).mono ?_); rintro e w' ⟨rfl, ⟨nd, rfl⟩⟩; (try first | exact ⟨rfl, _, World.drewN_drewN _ _ _⟩ | exact ⟨rfl, _, Eq.trans (World.drewN_drewN _ _ _) (congrArg (World.drewN _) (Nat.add_assoc _ _ _))⟩)))
    repeat (go_quiet (first | (go_at_call 108; (with_reducible refine (qr.calls k a0 t231 _ A8.out).mono ?_); rintro e w' ⟨rfl, ⟨nd, rfl⟩⟩; (try first | exact ⟨rfl, _, World.drewN_drewN _ _ _⟩ | exact ⟨rfl, _, Eq.trans (World.drewN_drewN _ _ _) (congrArg (World.drewN _) (Nat.add_assoc _ _ _))⟩))); try go_wp2_with (first | (go_at_call 108; (with_reducible refine (qr.calls k a0 t231 _ A8.out).mono ?_); rintro e w' ⟨rfl, ⟨nd, rfl⟩⟩; (try first | exact ⟨rfl, _, World.drewN_drewN _ _ _⟩ | exact ⟨rfl, _, Eq.trans (World.drewN_drewN _ _ _) (congrArg (World.drewN _) (Nat.add_assoc _ _ _))⟩))))
    go_meet
    case rel => exact ⟨_, (t231), yf, H', ⟨by first | omega | exact Nat.le_refl _⟩, ⟨by repeat (first | (with_reducible first | exact HB.out | apply qb | apply qa | apply qc) | exact HB.out)⟩⟩
   ·rw [if_neg c7] at H
    have c7b0 : ((a0.size : Int) == (a1.size : Int)) = false := beq_eq_false_iff_ne.mpr c7
    have c7b1 : ((a0.size : Int) != (a1.size : Int)) = true := bne_iff_ne.mpr c7
    have c7b2 : (a0.size == a1.size) = false := by first | simpa using c7 | (simp at c7 ⊢; omega)
    (first | rw [c7b0] | (simp only [zg, zi]; rw [c7b0]) | skip)
    have H' := qd.mk H
    clear H
    go_wp2
    repeat (go_quiet (fail); try go_wp2)
    go_meet
    case rel => exact ⟨_, (false), yf, H', ⟨by first | omega | exact Nat.le_refl _⟩, ⟨by repeat (first | (with_reducible first | exact HB.out | apply qb | apply qa | apply qc) | exact HB.out)⟩⟩
  case rest =>
   clear HC6
   (try clear p2); (try clear c4); (try clear c7); (try clear c7b0); (try clear c7b1); (try clear c7b2); try clear c8
   obtain ⟨kq, x27_5, rfl, HA, HJ5, HB⟩ := hcut
   cases kq with
   | zero => exact absurd HA.out (by simp [qk.j0])
   | succ kj5 =>
    have H := HA.out
    clear HA
    simp only [qk.j0] at H
    have HC9 := qd.mk H
    clear H
    go_upto_if 27 with (fail)
    repeat (go_quiet (fail); go_upto_if 27 with (fail))
    go_cut [0] (fun v0 wc => ∃ (kq : Nat) (x0_8 : ByteArray), v0 = .string x0_8 ∧ qd (qk.j2 kq x0_8 t229 t230 = some r) ∧ qd (kq ≤ kj5) ∧ qd (Below w.heap.size w wc))
    case first =>
     have H := HC9.out
     clear HC9
     by_cases c10 : x27_5 = true
     ·subst c10
      have H1 : ((z6.f a0).bind fun bt232 => (if t230.size ≤ 9223372036854775807 then (qk.l0 kj5 t229 t230 bt232.1 bt232.2 ((bytesOf t230).length : Int) 0) else (none))) = some r := by rw [if_pos rfl] at H; exact H
      clear H
      have H := H1
      clear H1
      replace H := Option.bind_eq_some_iff.mp H
      obtain ⟨⟨t232, t233⟩, A110, H⟩ := H
      replace H : (if t230.size ≤ 9223372036854775807 then (qk.l0 kj5 t229 t230 t232 t233 ((bytesOf t230).length : Int) 0) else (none)) = some r := H
      have A11 := qd.mk A110
      clear A110
      by_cases c12 : t230.size ≤ 9223372036854775807
      ·rw [if_pos c12] at H
       have c12b0 := eq_true c12
       have c12b1 : decide (t230.size ≤ 9223372036854775807) = true := decide_eq_true c12
       try have c12b2 : (9223372036854775807 < t230.size) = False := eq_false (Nat.not_lt.2 c12)
       clear c12
       obtain ⟨y234, hy234⟩ : ∃ y_ : List Int, y_ = (bytesOf t230) := ⟨_, rfl⟩
       replace H : (qk.l0 kj5 t229 t230 t232 t233 (y234.length : Int) 0) = some r := by first | (rw [hy234]; with_reducible exact H) | (have H2_ := (Option.bind_some _ _).symm.trans H; rw [hy234]; with_reducible exact H2_) | (have H2_ := (Option.bind_some _ _).symm.trans H; with_reducible exact H2_) | with_reducible exact H | (rw [hy234]; exact H) | exact H
       have Ny234 := qd.mk hy234
       clear hy234
       have H' := qd.mk H
       clear H
       go_wp2_with (first | (go_at_call 121; (with_reducible refine (z6.calls a0 t232 t233 _ A11.out).mono ?_); rintro e w' ⟨rfl, ⟨nd, rfl⟩⟩; (try first | exact ⟨rfl, _, World.drewN_drewN _ _ _⟩ | exact ⟨rfl, _, Eq.trans (World.drewN_drewN _ _ _) (congrArg (World.drewN _) (Nat.add_assoc _ _ _))⟩)) | ((with_reducible refine q8 (N := 34) rfl ?_); refine Kd.V_conv _ 5 rfl (N := 34) rfl 9 97 _ rfl t230 rfl Tryz.underlying9 Tryz.underlying97 Tryz.underlying5 (ok := fun k_ => wc.heap.size ≤ k_) (Nat.le_refl _) (of_decide_eq_true yc) (Below.refl _ _) (Nat.le_refl _) ?_; intro v235 w13 ho14 hb hg_ hnew_; clear hg_ hnew_; (first | rw [← Ny234.out] at ho14 | (simp only [Int.reduceToNat] at ho14; rw [← Ny234.out] at ho14)); have n0_ := qd.mk (Kd.V_lower (Kd.V_mono (ok' := fun k_ => True) ho14 (fun k_ hk_ => trivial)) (qo cu)); have n1_ := qd.mk (qf cu hb); clear HB; have HO236 := n0_; have HB := n1_; clear n0_ n1_; clear hb ho14; obtain ⟨Ao15, co15, eo15⟩ := Kd.V_slice HO236.out; subst eo15))
       repeat (go_quiet (first | (go_at_call 121; (with_reducible refine (z6.calls a0 t232 t233 _ A11.out).mono ?_); rintro e w' ⟨rfl, ⟨nd, rfl⟩⟩; (try first | exact ⟨rfl, _, World.drewN_drewN _ _ _⟩ | exact ⟨rfl, _, Eq.trans (World.drewN_drewN _ _ _) (congrArg (World.drewN _) (Nat.add_assoc _ _ _))⟩)) | ((with_reducible refine q8 (N := 34) rfl ?_); refine Kd.V_conv _ 5 rfl (N := 34) rfl 9 97 _ rfl t230 rfl Tryz.underlying9 Tryz.underlying97 Tryz.underlying5 (ok := fun k_ => wc.heap.size ≤ k_) (Nat.le_refl _) (of_decide_eq_true yc) (Below.refl _ _) (Nat.le_refl _) ?_; intro v235 w13 ho14 hb hg_ hnew_; clear hg_ hnew_; (first | rw [← Ny234.out] at ho14 | (simp only [Int.reduceToNat] at ho14; rw [← Ny234.out] at ho14)); have n0_ := qd.mk (Kd.V_lower (Kd.V_mono (ok' := fun k_ => True) ho14 (fun k_ hk_ => trivial)) (qo cu)); have n1_ := qd.mk (qf cu hb); clear HB; have HO236 := n0_; have HB := n1_; clear n0_ n1_; clear hb ho14; obtain ⟨Ao15, co15, eo15⟩ := Kd.V_slice HO236.out; subst eo15)); try go_wp2_with (first | (go_at_call 121; (with_reducible refine (z6.calls a0 t232 t233 _ A11.out).mono ?_); rintro e w' ⟨rfl, ⟨nd, rfl⟩⟩; (try first | exact ⟨rfl, _, World.drewN_drewN _ _ _⟩ | exact ⟨rfl, _, Eq.trans (World.drewN_drewN _ _ _) (congrArg (World.drewN _) (Nat.add_assoc _ _ _))⟩)) | ((with_reducible refine q8 (N := 34) rfl ?_); refine Kd.V_conv _ 5 rfl (N := 34) rfl 9 97 _ rfl t230 rfl Tryz.underlying9 Tryz.underlying97 Tryz.underlying5 (ok := fun k_ => wc.heap.size ≤ k_) (Nat.le_refl _) (of_decide_eq_true yc) (Below.refl _ _) (Nat.le_refl _) ?_; intro v235 w13 ho14 hb hg_ hnew_; clear hg_ hnew_; (first | rw [← Ny234.out] at ho14 | (simp only [Int.reduceToNat] at ho14; rw [← Ny234.out] at ho14)); have n0_ := qd.mk (Kd.V_lower (Kd.V_mono (ok' := fun k_ => True) ho14 (fun k_ hk_ => trivial)) (qo cu)); have n1_ := qd.mk (qf cu hb); clear HB; have HO236 := n0_; have HB := n1_; clear n0_ n1_; clear hb ho14; obtain ⟨Ao15, co15, eo15⟩ := Kd.V_slice HO236.out; subst eo15)))
       go_loopg [36] kj5 (fun kq v36 w' => ∃ (x36_2 : Int), v36 = .int .i64 x36_2 ∧ qd (qk.l0 kq t229 t230 t232 t233 (y234.length : Int) x36_2 = some r) ∧ qd (kq ≤ kj5) ∧ qd (Below w.heap.size w w'))
       case atStart => exact ⟨(0), yf, H', ⟨Nat.le_refl _⟩, ⟨by repeat (first | (with_reducible first | exact HB.out | apply qb | apply qa | apply qc) | exact HB.out)⟩⟩
       case round =>
        clear H'
        (try clear c1); (try clear p2); (try clear c4); (try clear c7); (try clear c7b0); (try clear c7b1); (try clear c7b2); (try clear c8); (try clear c10); (try clear c12); (try clear c12b0); try clear c12b1
        (try clear c12b2); try clear p2
        obtain ⟨x36_2, rfl, HA, HK2, HB⟩ := hrel
        cases gk with
        | zero => exact absurd HA.out (by simp [qk.l0])
        | succ k2 =>
         have H := HA.out
         clear HA
         simp only [qk.l0] at H
         by_cases c16 : x36_2 < (y234.length : Int)
         ·rw [if_pos c16] at H
          have c16b0 : decide (x36_2 < (y234.length : Int)) = true := decide_eq_true c16
          clear c16
          (first | rw [c16b0] | (simp only [zg, zi]; rw [c16b0]) | skip)
          by_cases c17 : 0 ≤ x36_2
          ·rw [if_pos c17] at H
           have c17b0 : decide (0 ≤ x36_2) = true := decide_eq_true c17
           clear c17
           by_cases c18 : x36_2 < (t230.size : Int)
           ·rw [if_pos c18] at H
            have c18b0 : decide (x36_2 < (t230.size : Int)) = true := decide_eq_true c18
            clear c18
            by_cases c20 : x36_2 < (t233.size : Int)
            ·rw [if_pos c20] at H
             have c20b0 : decide (x36_2 < (t233.size : Int)) = true := decide_eq_true c20
             clear c20
             by_cases c22 : (Go.bits .andNot .u8 (bt t230 x36_2) (bt t233 x36_2)) = 0
             ·rw [if_pos c22] at H
              have c22b0 : ((Go.bits .andNot .u8 (bt t230 x36_2) (bt t233 x36_2)) == 0) = true := beq_iff_eq.mpr c22
              have c22b1 : ((Go.bits .andNot .u8 (bt t230 x36_2) (bt t233 x36_2)) != 0) = false := bne_eq_false_iff_eq.mpr c22
              clear c22
              have H' := qd.mk H
              clear H
              have p19 : 0 ≤ (x36_2 : Int) := of_decide_eq_true yc
              have q19 : x36_2 < (t230.size : Int) := of_decide_eq_true yc
              have hx19 := bt_at t230 x36_2
              replace p19 := eq_true p19
              replace q19 := eq_true q19
              have p21 : 0 ≤ (x36_2 : Int) := of_decide_eq_true yc
              have q21 : x36_2 < (t233.size : Int) := of_decide_eq_true yc
              have hx21 := bt_at t233 x36_2
              replace p21 := eq_true p21
              replace q21 := eq_true q21
              go_wp2
              repeat (go_quiet (fail); try go_wp2)
              go_roundg k2
              case measure => have := HJ5.out; have := HK2.out; omega
              case rel => exact ⟨(wrap64 (x36_2 + 1)), yf, H', ⟨by have := HJ5.out; have := HK2.out; omega⟩, ⟨by repeat (first | (with_reducible first | exact HB.out | apply qb | apply qa | apply qc) | exact HB.out)⟩⟩
             ·rw [if_neg c22] at H
              have c22b0 : ((Go.bits .andNot .u8 (bt t230 x36_2) (bt t233 x36_2)) == 0) = false := beq_eq_false_iff_ne.mpr c22
              have c22b1 : ((Go.bits .andNot .u8 (bt t230 x36_2) (bt t233 x36_2)) != 0) = true := bne_iff_ne.mpr c22
              obtain rfl := Option.some.inj H
              have p19 : 0 ≤ (x36_2 : Int) := of_decide_eq_true yc
              have q19 : x36_2 < (t230.size : Int) := of_decide_eq_true yc
              have hx19 := bt_at t230 x36_2
              replace p19 := eq_true p19
              replace q19 := eq_true q19
              have p21 : 0 ≤ (x36_2 : Int) := of_decide_eq_true yc
              have q21 : x36_2 < (t233.size : Int) := of_decide_eq_true yc
              have hx21 := bt_at t233 x36_2
              replace p21 := eq_true p21
              replace q21 := eq_true q21
              go_wp2
              repeat (go_quiet (fail); try go_wp2)
              go_ret
              exact ⟨by first | rfl | (simp [qi, qj] <;> rfl) | (simp [*, qi, qj] <;> rfl), by repeat (first | (with_reducible first | exact HB.out | apply qb | apply qa | apply qc) | exact HB.out)⟩
            ·rw [if_neg c20] at H
             exact absurd H y7
           ·rw [if_neg c18] at H
            exact absurd H y7
          ·rw [if_neg c17] at H
           exact absurd H y7
         ·rw [if_neg c16] at H
          have c16b0 : decide (x36_2 < (y234.length : Int)) = false := decide_eq_false c16
          clear c16
          (first | rw [c16b0] | (simp only [zg, zi]; rw [c16b0]) | skip)
          have H' := qd.mk H
          clear H
          go_wp2
          repeat (go_quiet (fail); try go_wp2)
          go_meet
          case rel => exact ⟨_, (t232), yf, H', ⟨by have := HJ5.out; have := HK2.out; first | omega | exact Nat.le_refl _⟩, ⟨by repeat (first | (with_reducible first | exact HB.out | apply qb | apply qa | apply qc) | exact HB.out)⟩⟩
      ·rw [if_neg c12] at H
       exact absurd H y7
     ·replace c10 := Bool.eq_false_iff.mpr c10
      subst c10
      have H1 : (if (a0.size : Int) = (t229.size : Int) then ((xn.f a0).bind fun t237 => (if t237 = true then (qk.j2 kj5 a0 t229 t230) else (some false))) else (some false)) = some r := by rw [if_neg (show ¬ (false = true) by decide)] at H; exact H
      clear H
      have H := H1
      clear H1
      by_cases c23 : (a0.size : Int) = (t229.size : Int)
      ·rw [if_pos c23] at H
       have c23b0 : ((a0.size : Int) == (t229.size : Int)) = true := beq_iff_eq.mpr c23
       have c23b1 : ((a0.size : Int) != (t229.size : Int)) = false := bne_eq_false_iff_eq.mpr c23
       have c23b2 : (a0.size == t229.size) = true := by first | simpa using c23 | (simp at c23 ⊢; omega)
       clear c23
       replace H := Option.bind_eq_some_iff.mp H
       obtain ⟨t237, A240, H⟩ := H
       replace H : (if t237 = true then (qk.j2 kj5 a0 t229 t230) else (some false)) = some r := H
       have A24 := qd.mk A240
       clear A240
       by_cases c25 : t237 = true
       ·subst c25
        have H1 : (qk.j2 kj5 a0 t229 t230) = some r := by rw [if_pos rfl] at H; exact H
        clear H
        have H := H1
        clear H1
        have H' := qd.mk H
        clear H
        go_wp2_with (first | (go_at_call 109; (with_reducible refine (xn.calls a0 true _ A24.out).mono ?_); rintro e w' ⟨rfl, ⟨nd, rfl⟩⟩; (try first | exact ⟨rfl, _, World.drewN_drewN _ _ _⟩ | exact ⟨rfl, _, Eq.trans (World.drewN_drewN _ _ _) (congrArg (World.drewN _) (Nat.add_assoc _ _ _))⟩)))
        repeat (go_quiet (first | (go_at_call 109; (with_reducible refine (xn.calls a0 true _ A24.out).mono ?_); rintro e w' ⟨rfl, ⟨nd, rfl⟩⟩; (try first | exact ⟨rfl, _, World.drewN_drewN _ _ _⟩ | exact ⟨rfl, _, Eq.trans (World.drewN_drewN _ _ _) (congrArg (World.drewN _) (Nat.add_assoc _ _ _))⟩))); try go_wp2_with (first | (go_at_call 109; (with_reducible refine (xn.calls a0 true _ A24.out).mono ?_); rintro e w' ⟨rfl, ⟨nd, rfl⟩⟩; (try first | exact ⟨rfl, _, World.drewN_drewN _ _ _⟩ | exact ⟨rfl, _, Eq.trans (World.drewN_drewN _ _ _) (congrArg (World.drewN _) (Nat.add_assoc _ _ _))⟩))))
        go_meet
        case rel => exact ⟨_, (a0), yf, H', ⟨by have := HJ5.out; first | omega | exact Nat.le_refl _⟩, ⟨by repeat (first | (with_reducible first | exact HB.out | apply qb | apply qa | apply qc) | exact HB.out)⟩⟩
       ·replace c25 := Bool.eq_false_iff.mpr c25
        subst c25
        have H1 : (some false) = some r := by rw [if_neg (show ¬ (false = true) by decide)] at H; exact H
        clear H
        have H := H1
        clear H1
        obtain rfl := Option.some.inj H
        go_wp2_with (first | (go_at_call 109; (with_reducible refine (xn.calls a0 false _ A24.out).mono ?_); rintro e w' ⟨rfl, ⟨nd, rfl⟩⟩; (try first | exact ⟨rfl, _, World.drewN_drewN _ _ _⟩ | exact ⟨rfl, _, Eq.trans (World.drewN_drewN _ _ _) (congrArg (World.drewN _) (Nat.add_assoc _ _ _))⟩)))
        repeat (go_quiet (first | (go_at_call 109; (with_reducible refine (xn.calls a0 false _ A24.out).mono ?_); rintro e w' ⟨rfl, ⟨nd, rfl⟩⟩; (try first | exact ⟨rfl, _, World.drewN_drewN _ _ _⟩ | exact ⟨rfl, _, Eq.trans (World.drewN_drewN _ _ _) (congrArg (World.drewN _) (Nat.add_assoc _ _ _))⟩))); try go_wp2_with (first | (go_at_call 109; (with_reducible refine (xn.calls a0 false _ A24.out).mono ?_); rintro e w' ⟨rfl, ⟨nd, rfl⟩⟩; (try first | exact ⟨rfl, _, World.drewN_drewN _ _ _⟩ | exact ⟨rfl, _, Eq.trans (World.drewN_drewN _ _ _) (congrArg (World.drewN _) (Nat.add_assoc _ _ _))⟩))))
        go_ret
        exact ⟨by first | rfl | (simp [qi, qj] <;> rfl) | (simp [*, qi, qj] <;> rfl), by repeat (first | (with_reducible first | exact HB.out | apply qb | apply qa | apply qc) | exact HB.out)⟩
      ·rw [if_neg c23] at H
       have c23b0 : ((a0.size : Int) == (t229.size : Int)) = false := beq_eq_false_iff_ne.mpr c23
       have c23b1 : ((a0.size : Int) != (t229.size : Int)) = true := bne_iff_ne.mpr c23
       have c23b2 : (a0.size == t229.size) = false := by first | simpa using c23 | (simp at c23 ⊢; omega)
       obtain rfl := Option.some.inj H
       go_wp2
       repeat (go_quiet (fail); try go_wp2)
       go_ret
       exact ⟨by first | rfl | (simp [qi, qj] <;> rfl) | (simp [*, qi, qj] <;> rfl), by repeat (first | (with_reducible first | exact HB.out | apply qb | apply qa | apply qc) | exact HB.out)⟩
    case rest =>
     clear HC9
     (try clear c1); (try clear p1); (try clear q1); (try clear hx1); (try clear c2); (try clear p2); (try clear q2); (try clear hx2); (try clear c4); (try clear p6); (try clear c7); try clear c7b0
     (try clear c7b1); (try clear c7b2); (try clear c8); (try clear c10); (try clear c12); (try clear c12b0); (try clear c12b1); (try clear c12b2); (try clear c16); (try clear c16b0); try clear c17
     (try clear c17b0); (try clear c18); (try clear c18b0); (try clear p19); (try clear q19); (try clear hx19); (try clear c20); (try clear c20b0); (try clear p21); (try clear q21); try clear hx21
     (try clear c22); (try clear c22b0); (try clear c22b1); (try clear c23); (try clear c23b0); (try clear c23b1); (try clear c23b2); (try clear c25); (try clear p19); (try clear p2); try clear p21
     (try clear q19); try clear q21
     obtain ⟨kq, x0_8, rfl, HA, HJ8, HB⟩ := hcut
     cases kq with
     | zero => exact absurd HA.out (by simp [qk.j2])
     | succ kj8 =>
      have H := HA.out
      clear HA
      simp only [qk.j2] at H
      by_cases c26 : t230.size ≤ 9223372036854775807
      ·rw [if_pos c26] at H
       have c26b0 := eq_true c26
       have c26b1 : decide (t230.size ≤ 9223372036854775807) = true := decide_eq_true c26
       try have c26b2 : (9223372036854775807 < t230.size) = False := eq_false (Nat.not_lt.2 c26)
       clear c26
       obtain ⟨y238, hy238⟩ : ∃ y_ : List Int, y_ = (bytesOf t230) := ⟨_, rfl⟩
       replace H : (qk.l1 kj8 x0_8 t229 t230 (y238.length : Int) 0) = some r := by first | (rw [hy238]; with_reducible exact H) | (have H2_ := (Option.bind_some _ _).symm.trans H; rw [hy238]; with_reducible exact H2_) | (have H2_ := (Option.bind_some _ _).symm.trans H; with_reducible exact H2_) | with_reducible exact H | (rw [hy238]; exact H) | exact H
       have Ny238 := qd.mk hy238
       clear hy238
       have H' := qd.mk H
       clear H
       go_wp2_with (first | ((with_reducible refine q8 (N := 60) rfl ?_); refine Kd.V_conv _ 5 rfl (N := 60) rfl 9 97 _ rfl t230 rfl Tryz.underlying9 Tryz.underlying97 Tryz.underlying5 (ok := fun k_ => wc.heap.size ≤ k_) (Nat.le_refl _) (of_decide_eq_true yc) (Below.refl _ _) (Nat.le_refl _) ?_; intro v239 w27 ho28 hb hg_ hnew_; clear hg_ hnew_; (first | rw [← Ny238.out] at ho28 | (simp only [Int.reduceToNat] at ho28; rw [← Ny238.out] at ho28)); have n0_ := qd.mk (Kd.V_lower (Kd.V_mono (ok' := fun k_ => True) ho28 (fun k_ hk_ => trivial)) (qo cu)); have n1_ := qd.mk (qf cu hb); clear HB; have HO240 := n0_; have HB := n1_; clear n0_ n1_; clear hb ho28; obtain ⟨Ao29, co29, eo29⟩ := Kd.V_slice HO240.out; subst eo29))
       repeat (go_quiet (first | ((with_reducible refine q8 (N := 60) rfl ?_); refine Kd.V_conv _ 5 rfl (N := 60) rfl 9 97 _ rfl t230 rfl Tryz.underlying9 Tryz.underlying97 Tryz.underlying5 (ok := fun k_ => wc.heap.size ≤ k_) (Nat.le_refl _) (of_decide_eq_true yc) (Below.refl _ _) (Nat.le_refl _) ?_; intro v239 w27 ho28 hb hg_ hnew_; clear hg_ hnew_; (first | rw [← Ny238.out] at ho28 | (simp only [Int.reduceToNat] at ho28; rw [← Ny238.out] at ho28)); have n0_ := qd.mk (Kd.V_lower (Kd.V_mono (ok' := fun k_ => True) ho28 (fun k_ hk_ => trivial)) (qo cu)); have n1_ := qd.mk (qf cu hb); clear HB; have HO240 := n0_; have HB := n1_; clear n0_ n1_; clear hb ho28; obtain ⟨Ao29, co29, eo29⟩ := Kd.V_slice HO240.out; subst eo29)); try go_wp2_with (first | ((with_reducible refine q8 (N := 60) rfl ?_); refine Kd.V_conv _ 5 rfl (N := 60) rfl 9 97 _ rfl t230 rfl Tryz.underlying9 Tryz.underlying97 Tryz.underlying5 (ok := fun k_ => wc.heap.size ≤ k_) (Nat.le_refl _) (of_decide_eq_true yc) (Below.refl _ _) (Nat.le_refl _) ?_; intro v239 w27 ho28 hb hg_ hnew_; clear hg_ hnew_; (first | rw [← Ny238.out] at ho28 | (simp only [Int.reduceToNat] at ho28; rw [← Ny238.out] at ho28)); have n0_ := qd.mk (Kd.V_lower (Kd.V_mono (ok' := fun k_ => True) ho28 (fun k_ hk_ => trivial)) (qo cu)); have n1_ := qd.mk (qf cu hb); clear HB; have HO240 := n0_; have HB := n1_; clear n0_ n1_; clear hb ho28; obtain ⟨Ao29, co29, eo29⟩ := Kd.V_slice HO240.out; subst eo29)))
       go_loopg [62] kj8 (fun kq v62 w' => ∃ (x62_3 : Int), v62 = .int .i64 x62_3 ∧ qd (qk.l1 kq x0_8 t229 t230 (y238.length : Int) x62_3 = some r) ∧ qd (kq ≤ kj8) ∧ qd (Below w.heap.size w w'))
       case atStart => exact ⟨(0), yf, H', ⟨Nat.le_refl _⟩, ⟨by repeat (first | (with_reducible first | exact HB.out | apply qb | apply qa | apply qc) | exact HB.out)⟩⟩
       case round =>
        clear H'
        (try clear c1); (try clear p1); (try clear q1); (try clear hx1); (try clear c2); (try clear p2); (try clear q2); (try clear hx2); (try clear c4); (try clear p6); (try clear c7); try clear c7b0
        (try clear c7b1); (try clear c7b2); (try clear c8); (try clear c10); (try clear c12); (try clear c12b0); (try clear c12b1); (try clear c12b2); (try clear c16); (try clear c16b0); try clear c17
        (try clear c17b0); (try clear c18); (try clear c18b0); (try clear p19); (try clear q19); (try clear hx19); (try clear c20); (try clear c20b0); (try clear p21); (try clear q21); try clear hx21
        (try clear c22); (try clear c22b0); (try clear c22b1); (try clear c23); (try clear c23b0); (try clear c23b1); (try clear c23b2); (try clear c25); (try clear c26); (try clear c26b0); try clear c26b1
        (try clear c26b2); (try clear p1); (try clear p19); (try clear p2); (try clear p21); (try clear p6); (try clear q1); (try clear q19); (try clear q2); try clear q21
        obtain ⟨x62_3, rfl, HA, HK3, HB⟩ := hrel
        cases gk with
        | zero => exact absurd HA.out (by simp [qk.l1])
        | succ k3 =>
         have H := HA.out
         clear HA
         simp only [qk.l1] at H
         by_cases c30 : x62_3 < (y238.length : Int)
         ·rw [if_pos c30] at H
          have c30b0 : decide (x62_3 < (y238.length : Int)) = true := decide_eq_true c30
          clear c30
          by_cases c31 : 0 ≤ x62_3
          ·rw [if_pos c31] at H
           have c31b0 : decide (0 ≤ x62_3) = true := decide_eq_true c31
           clear c31
           by_cases c32 : x62_3 < (x0_8.size : Int)
           ·rw [if_pos c32] at H
            have c32b0 : decide (x62_3 < (x0_8.size : Int)) = true := decide_eq_true c32
            clear c32
            by_cases c34 : x62_3 < (t230.size : Int)
            ·rw [if_pos c34] at H
             have c34b0 : decide (x62_3 < (t230.size : Int)) = true := decide_eq_true c34
             clear c34
             by_cases c36 : x62_3 < (t229.size : Int)
             ·rw [if_pos c36] at H
              have c36b0 : decide (x62_3 < (t229.size : Int)) = true := decide_eq_true c36
              clear c36
              by_cases c38 : (Go.bits .and .u8 (bt x0_8 x62_3) (bt t230 x62_3)) = (bt t229 x62_3)
              ·rw [if_pos c38] at H
               have c38b0 : ((Go.bits .and .u8 (bt x0_8 x62_3) (bt t230 x62_3)) == (bt t229 x62_3)) = true := beq_iff_eq.mpr c38
               have c38b1 : ((Go.bits .and .u8 (bt x0_8 x62_3) (bt t230 x62_3)) != (bt t229 x62_3)) = false := bne_eq_false_iff_eq.mpr c38
               clear c38
               have H' := qd.mk H
               clear H
               have p33 : 0 ≤ (x62_3 : Int) := of_decide_eq_true yc
               have q33 : x62_3 < (x0_8.size : Int) := of_decide_eq_true yc
               have hx33 := bt_at x0_8 x62_3
               replace p33 := eq_true p33
               replace q33 := eq_true q33
               have p35 : 0 ≤ (x62_3 : Int) := of_decide_eq_true yc
               have q35 : x62_3 < (t230.size : Int) := of_decide_eq_true yc
               have hx35 := bt_at t230 x62_3
               replace p35 := eq_true p35
               replace q35 := eq_true q35
               have p37 : 0 ≤ (x62_3 : Int) := of_decide_eq_true yc
               have q37 : x62_3 < (t229.size : Int) := of_decide_eq_true yc
               have hx37 := bt_at t229 x62_3
               replace p37 := eq_true p37
               replace q37 := eq_true q37
               go_wp2
               repeat (go_quiet (fail); try go_wp2)
               go_roundg k3
               case measure => have := HJ5.out; have := HJ8.out; have := HK3.out; omega
               case rel => exact ⟨(wrap64 (x62_3 + 1)), yf, H', ⟨by have := HJ5.out; have := HJ8.out; have := HK3.out; omega⟩, ⟨by repeat (first | (with_reducible first | exact HB.out | apply qb | apply qa | apply qc) | exact HB.out)⟩⟩
              ·rw [if_neg c38] at H
               have c38b0 : ((Go.bits .and .u8 (bt x0_8 x62_3) (bt t230 x62_3)) == (bt t229 x62_3)) = false := beq_eq_false_iff_ne.mpr c38
               have c38b1 : ((Go.bits .and .u8 (bt x0_8 x62_3) (bt t230 x62_3)) != (bt t229 x62_3)) = true := bne_iff_ne.mpr c38
               obtain rfl := Option.some.inj H
               have p33 : 0 ≤ (x62_3 : Int) := of_decide_eq_true yc
               have q33 : x62_3 < (x0_8.size : Int) := of_decide_eq_true yc
               have hx33 := bt_at x0_8 x62_3
               replace p33 := eq_true p33
               replace q33 := eq_true q33
               have p35 : 0 ≤ (x62_3 : Int) := of_decide_eq_true yc
               have q35 : x62_3 < (t230.size : Int) := of_decide_eq_true yc
               have hx35 := bt_at t230 x62_3
               replace p35 := eq_true p35
               replace q35 := eq_true q35
               have p37 : 0 ≤ (x62_3 : Int) := of_decide_eq_true yc
               have q37 : x62_3 < (t229.size : Int) := of_decide_eq_true yc
               have hx37 := bt_at t229 x62_3
               replace p37 := eq_true p37
               replace q37 := eq_true q37
               go_wp2
               repeat (go_quiet (fail); try go_wp2)
               go_ret
               exact ⟨by first | rfl | (simp [qi, qj] <;> rfl) | (simp [*, qi, qj] <;> rfl), by repeat (first | (with_reducible first | exact HB.out | apply qb | apply qa | apply qc) | exact HB.out)⟩
             ·rw [if_neg c36] at H
              exact absurd H y7
            ·rw [if_neg c34] at H
             exact absurd H y7
           ·rw [if_neg c32] at H
            exact absurd H y7
          ·rw [if_neg c31] at H
           exact absurd H y7
         ·rw [if_neg c30] at H
          have c30b0 : decide (x62_3 < (y238.length : Int)) = false := decide_eq_false c30
          clear c30
          obtain rfl := Option.some.inj H
          go_wp2
          repeat (go_quiet (fail); try go_wp2)
          go_ret
          exact ⟨by first | rfl | (simp [qi, qj] <;> rfl) | (simp [*, qi, qj] <;> rfl), by repeat (first | (with_reducible first | exact HB.out | apply qb | apply qa | apply qc) | exact HB.out)⟩
      ·rw [if_neg c26] at H
       exact absurd H y7
 ·replace c4 := Bool.eq_false_iff.mpr c4
  subst c4
  have H1 : (some false) = some r := by rw [if_neg (show ¬ (false = true) by decide)] at H; exact H
  clear H
  have H := H1
  clear H1
  obtain rfl := Option.some.inj H
  go_enter Tryz.func87, Tryz.ntmps87
  go_wp2_with (first | (go_at_call 108; (with_reducible refine (qr.calls k a1 false _ A3.out).mono ?_); rintro e w' ⟨rfl, ⟨nd, rfl⟩⟩; (try first | exact ⟨rfl, _, World.drewN_drewN _ _ _⟩ | exact ⟨rfl, _, Eq.trans (World.drewN_drewN _ _ _) (congrArg (World.drewN _) (Nat.add_assoc _ _ _))⟩)))
  repeat (go_quiet (first | (go_at_call 108; (with_reducible refine (qr.calls k a1 false _ A3.out).mono ?_); rintro e w' ⟨rfl, ⟨nd, rfl⟩⟩; (try first | exact ⟨rfl, _, World.drewN_drewN _ _ _⟩ | exact ⟨rfl, _, Eq.trans (World.drewN_drewN _ _ _) (congrArg (World.drewN _) (Nat.add_assoc _ _ _))⟩))); try go_wp2_with (first | (go_at_call 108; (with_reducible refine (qr.calls k a1 false _ A3.out).mono ?_); rintro e w' ⟨rfl, ⟨nd, rfl⟩⟩; (try first | exact ⟨rfl, _, World.drewN_drewN _ _ _⟩ | exact ⟨rfl, _, Eq.trans (World.drewN_drewN _ _ _) (congrArg (World.drewN _) (Nat.add_assoc _ _ _))⟩))))
  go_ret
  exact ⟨by first | rfl | (simp [qi, qj] <;> rfl) | (simp [*, qi, qj] <;> rfl), by repeat (first | (with_reducible first | exact HB.out | apply qb | apply qa | apply qc) | exact HB.out)⟩
end Go.Proofs.YtlamfnaoemingaaGreatDoor.C
end
