/- Words, walks and plain laws that the claim rests on, gathered. -/
import Derived.Shelf.Strings.Builder1
import Derived.Shelf.Strings.Builder2
import Derived.Shelf.Strings.OnBuilder
import Derived.Shelf.Small.Bits
import Derived.Shelf.Small.Strs
import Derived.Shelf.Small.Wraps
import Derived.Shelf.Strings.BuilderF
import Derived.Shelf.Strings.BuilderK
import Derived.Shelf.Utf8.RuneCount
import Derived.Shelf.Strings.Builder2Cap
import Derived.Shelf.Strconv.Itoa0
import Derived.Shelf.Strings.Search1
import Derived.Shelf.Strings.Search2
import Derived.Shelf.Strings.Search3
import Derived.Shelf.Strings.Cut
import Derived.Shelf.Strings.Count
import Derived.Shelf.LaysM
import Derived.Shelf.Strings.Shaped
import Derived.Shelf.Sort.Plain
import Derived.Shelf.Strings.Prefix
import Derived.Shelf.Strings.Split
import Derived.Shelf.Strings.SplitShaped
import Derived.Shelf.Unicode.Decode
import Derived.Shelf.Strings.RuneCount
import Derived.Shelf.Strings.Explode
import Derived.Shelf.Unicode.DecodeSlow
import Derived.Shelf.Unicode.DecodeAny
import Derived.Shelf.Strings.BuilderCap
import Derived.Shelf.Slices.In.SortNone
import Derived.Shelf.Slices.In.SortNone2
import Derived.Test.YtlamfnaoemingaaGreatDoorProg
import Derived.Below
import Derived.Deep.Draws
import Derived.Deep.AppendLies
import Derived.Maps.AppendAt
import Derived.OwnWalk
import Derived.Laws.BytesArg
import Derived.Laws.MakeOwn
import Derived.Laws.OwnMore
import Derived.Deep.OwnRows
import Derived.Tactics
import Derived.Lib.ConvBytes
import Derived.Laws.Slices
import Derived.WalkKit
import Derived.KernelRfl
import Derived.RowKit3
import Derived.Deep.LoopGhost
import Derived.Deep.QuietTactic
import Derived.BigQuiet
import Derived.WideLaws
import Derived.Deep.DeepCutAuto
import Derived.Deep.CutBlock
import Derived.Deep.RegionHeld3
import Derived.Laws.Rows
import Derived.Lib.AppendStr
import Derived.ArgAppend
import Derived.Laws.IdiomCopy
import Derived.RowKit
import Derived.WalkSpells
import Derived.OrdersHeld
import Derived.Laws.BitsLemmas
import Derived.WalkLawsBesides
import Derived.Laws.StructEq
import Derived.Test.YtlamfnaoemingaaGreatDoorGS0
import Derived.Test.YtlamfnaoemingaaGreatDoorGS1
import Derived.Test.YtlamfnaoemingaaGreatDoorGS2
import Derived.Test.YtlamfnaoemingaaGreatDoorGS3
import Derived.Test.YtlamfnaoemingaaGreatDoorGS4
import Derived.Test.YtlamfnaoemingaaGreatDoorGS6
import Derived.Test.YtlamfnaoemingaaGreatDoorGSc
namespace Go.Proofs.YtlamfnaoemingaaGreatDoorW.PrintLast
end Go.Proofs.YtlamfnaoemingaaGreatDoorW.PrintLast
namespace Go.Proofs.YtlamfnaoemingaaGreatDoorW.PrintMore
end Go.Proofs.YtlamfnaoemingaaGreatDoorW.PrintMore
namespace Go.Proofs.YtlamfnaoemingaaGreatDoorW.PrintWords
end Go.Proofs.YtlamfnaoemingaaGreatDoorW.PrintWords
section
namespace Go.Proofs.YtlamfnaoemingaaGreatDoor.C
open Go.RowKit Go.Proofs.YtlamfnaoemingaaGreatDoorW.PrintWords Go.Proofs.YtlamfnaoemingaaGreatDoorW.PrintLast Go.Proofs.YtlamfnaoemingaaGreatDoorW.PrintMore
attribute [local go_sem] zw zx xe xd zn zp zy zz
set_option linter.unusedVariables false
set_option linter.unusedSimpArgs false
mutual
def qq.j0 : Nat → ByteArray → ByteArray → Bool → Option (Bool)
 | 0, _, _, _ => none
 | k + 1, x0, x1, x15 => if x15 = true then (some false) else ((q7.f k x1).bind fun t201 => (if t201 = true then ((qv.f k x0 x1).bind fun t202 => (some t202)) else ((strings_Cut.f x0 (⟨#[64]⟩ : ByteArray)).bind fun bt203 => (if bt203.2.2 = true then (qq.j1 k bt203.2.1 x1) else (qq.j1 k x0 x1)))))
def qq.j1 : Nat → ByteArray → ByteArray → Option (Bool)
 | 0, _, _ => none
 | k + 1, x0, x1 => (zb.f x0 x1).bind fun t206 => (if t206 = true then (some true) else (if 0 < (x1.size : Int) then (if (bt x1 0) = 46 then ((z8.f x0 x1).bind fun t207 => (some t207)) else (some false)) else (none)))
end
def qq.f (k : Nat) (a0 : ByteArray) (a1 : ByteArray) : Option (Bool) := (zj.f k a1).bind fun t199 => (if t199 = true then ((zj.f k a0).bind fun t200 => (qq.j0 k a0 a1 (!t200))) else (qq.j0 k a0 a1 true))
theorem qq.zv : ∀ k, (∀ y0 y1 y2, LeO (qq.j0 k y0 y1 y2) (qq.j0 (k + 1) y0 y1 y2)) ∧ (∀ y0 y1, LeO (qq.j1 k y0 y1) (qq.j1 (k + 1) y0 y1))
 | 0 => ⟨fun _ _ _ r h => by simp [qq.j0] at h, fun _ _ r h => by simp [qq.j1] at h⟩
 | k + 1 => by
  obtain ⟨ih0, ih1⟩ := qq.zv k
  refine ⟨?_, ?_⟩
  ·intro y0 y1 y2
   unfold qq.j0
   repeat' first
   | (with_reducible exact ih0 _ _ _)
   | (with_reducible exact ih1 _ _)
   | (with_reducible exact q7.mono _ _)
   | (with_reducible exact zj.mono _ _)
   | (with_reducible exact qv.mono _ _ _)
   | (with_reducible exact LeO.refl _)
   | (with_reducible exact LeO.none _)
   | (with_reducible refine LeO.ite ?_ ?_)
   | (with_reducible refine LeO.bind ?_ (fun _ => ?_))
  ·intro y0 y1
   unfold qq.j1
   repeat' first
   | (with_reducible exact ih0 _ _ _)
   | (with_reducible exact ih1 _ _)
   | (with_reducible exact q7.mono _ _)
   | (with_reducible exact zj.mono _ _)
   | (with_reducible exact qv.mono _ _ _)
   | (with_reducible exact LeO.refl _)
   | (with_reducible exact LeO.none _)
   | (with_reducible refine LeO.ite ?_ ?_)
   | (with_reducible refine LeO.bind ?_ (fun _ => ?_))
theorem qq.mono : ∀ a0 a1 k, LeO (qq.f k a0 a1) (qq.f (k + 1) a0 a1) := by
 intro a0 a1 k
 obtain ⟨ih0, ih1⟩ := qq.zv k
 unfold qq.f
 repeat' first
   | (with_reducible exact ih0 _ _ _)
   | (with_reducible exact ih1 _ _)
   | (with_reducible exact q7.mono _ _)
   | (with_reducible exact zj.mono _ _)
   | (with_reducible exact qv.mono _ _ _)
   | (with_reducible exact LeO.refl _)
   | (with_reducible exact LeO.none _)
   | (with_reducible refine LeO.ite ?_ ?_)
   | (with_reducible refine LeO.bind ?_ (fun _ => ?_))
set_option maxHeartbeats 8000000 in
set_option maxRecDepth 100000 in
theorem qq.calls (k : Nat) (a0 : ByteArray) (a1 : ByteArray) (r : Bool) (w : World) (hG : LibHeld w) (h : qq.f k a0 a1 = some r) :
  Calls Tryz.prog 84 #[.string a0, .string a1] w fun e w' => e = .returned (.bool r) ∧ Below w.heap.size w w' := by
 have HG := qd.mk hG
 clear hG
 have HB := qd.mk (Below.refl w.heap.size w)
 have H : ((zj.f k a1).bind fun t199 => (if t199 = true then ((zj.f k a0).bind fun t200 => (qq.j0 k a0 a1 (!t200))) else (qq.j0 k a0 a1 true))) = some r := h
 clear h
 have HC3 := qd.mk H
 clear H
 go_enter Tryz.func84, Tryz.ntmps84
 go_upto_region 1 with (fail)
 go_cut [15] (fun v15 wc => ∃ (kq : Nat) (x15_2 : Bool), v15 = .bool x15_2 ∧ qd (qq.j0 kq a0 a1 x15_2 = some r) ∧ qd (kq ≤ k) ∧ qd (Below w.heap.size w wc))
 case first =>
  have H := HC3.out
  clear HC3
  replace H := Option.bind_eq_some_iff.mp H
  obtain ⟨t199, A40, H⟩ := H
  replace H : (if t199 = true then ((zj.f k a0).bind fun t200 => (qq.j0 k a0 a1 (!t200))) else (qq.j0 k a0 a1 true)) = some r := H
  have A4 := qd.mk A40
  clear A40
  by_cases c5 : t199 = true
  ·subst c5
   have H1 : ((zj.f k a0).bind fun t200 => (qq.j0 k a0 a1 (!t200))) = some r := by rw [if_pos rfl] at H; exact H
   clear H
   have H := H1
   clear H1
   replace H := Option.bind_eq_some_iff.mp H
   obtain ⟨t200, A60, H⟩ := H
   replace H : (qq.j0 k a0 a1 (!t200)) = some r := H
   have A6 := qd.mk A60
   clear A60
   have H' := qd.mk H
   clear H
   go_wp2_with (first | ((with_reducible refine qp (f := 105) rfl ?_); refine za (some 9) rfl rfl Tryz.func105 yg rfl #[.string a1] rfl cz ?_; (with_reducible refine (zj.calls k a1 true _ ?side1 A4.out).mono ?_); (case side1 => exact LibHeld.below HG.out cu); rintro e w7 ⟨rfl, hb⟩; refine ⟨_, rfl, ?_⟩; have n0_ := qd.mk (qf cu hb); clear HB; have HB := n0_; clear n0_; (try clear hb); (try clear hb2); (try clear hk); (try clear hi)) | (go_at_call 105; (with_reducible refine (zj.calls k a0 t200 _ ?side1 A6.out).mono ?_); (case side1 => exact LibHeld.below HG.out cu); rintro e w8 ⟨rfl, hb⟩; have n0_ := qd.mk (qf cu hb); clear HB; have HB := n0_; clear n0_; (try clear hb); (try clear hb2); (try clear hk); (try clear hi)))
   go_meet
   case rel => exact ⟨_, (!t200), yf, H', ⟨by first | omega | exact Nat.le_refl _⟩, ⟨by repeat (first | (with_reducible first | exact HB.out | apply qb | apply qa | apply qc) | exact HB.out)⟩⟩
  ·replace c5 := Bool.eq_false_iff.mpr c5
   subst c5
   have H1 : (qq.j0 k a0 a1 true) = some r := by rw [if_neg (show ¬ (false = true) by decide)] at H; exact H
   clear H
   have H := H1
   clear H1
   have H' := qd.mk H
   clear H
   go_wp2_with (first | ((with_reducible refine qp (f := 105) rfl ?_); refine za (some 9) rfl rfl Tryz.func105 yg rfl #[.string a1] rfl cz ?_; (with_reducible refine (zj.calls k a1 false _ ?side1 A4.out).mono ?_); (case side1 => exact LibHeld.below HG.out cu); rintro e w9 ⟨rfl, hb⟩; refine ⟨_, rfl, ?_⟩; have n0_ := qd.mk (qf cu hb); clear HB; have HB := n0_; clear n0_; (try clear hb); (try clear hb2); (try clear hk); (try clear hi)))
   go_meet
   case rel => exact ⟨_, (true), yf, H', ⟨by first | omega | exact Nat.le_refl _⟩, ⟨by repeat (first | (with_reducible first | exact HB.out | apply qb | apply qa | apply qc) | exact HB.out)⟩⟩
 case rest =>
  clear HC3
  (try clear c1); (try clear p2); (try clear c5); try clear c8
  obtain ⟨kq, x15_2, rfl, HA, HJ2, HB⟩ := hcut
  cases kq with
  | zero => exact absurd HA.out (by simp [qq.j0])
  | succ kj2 =>
   have H := HA.out
   clear HA
   simp only [qq.j0] at H
   by_cases c10 : x15_2 = true
   ·subst c10
    have H1 : (some false) = some r := by rw [if_pos rfl] at H; exact H
    clear H
    have H := H1
    clear H1
    obtain rfl := Option.some.inj H
    go_wp2
    go_ret
    exact ⟨by first | rfl | (simp [qi, qj] <;> rfl) | (simp [*, qi, qj] <;> rfl), by repeat (first | (with_reducible first | exact HB.out | apply qb | apply qa | apply qc) | exact HB.out)⟩
   ·replace c10 := Bool.eq_false_iff.mpr c10
    subst c10
    have H1 : ((q7.f kj2 a1).bind fun t201 => (if t201 = true then ((qv.f kj2 a0 a1).bind fun t202 => (some t202)) else ((strings_Cut.f a0 (⟨#[64]⟩ : ByteArray)).bind fun bt203 => (if bt203.2.2 = true then (qq.j1 kj2 bt203.2.1 a1) else (qq.j1 kj2 a0 a1))))) = some r := by rw [if_neg (show ¬ (false = true) by decide)] at H; exact H
    clear H
    have H := H1
    clear H1
    replace H := Option.bind_eq_some_iff.mp H
    obtain ⟨t201, A110, H⟩ := H
    replace H : (if t201 = true then ((qv.f kj2 a0 a1).bind fun t202 => (some t202)) else ((strings_Cut.f a0 (⟨#[64]⟩ : ByteArray)).bind fun bt203 => (if bt203.2.2 = true then (qq.j1 kj2 bt203.2.1 a1) else (qq.j1 kj2 a0 a1)))) = some r := H
    have A11 := qd.mk A110
    clear A110
    by_cases c12 : t201 = true
    ·subst c12
     have H1 : ((qv.f kj2 a0 a1).bind fun t202 => (some t202)) = some r := by rw [if_pos rfl] at H; exact H
     clear H
     have H := H1
     clear H1
     replace H := Option.bind_eq_some_iff.mp H
     obtain ⟨t202, A130, H⟩ := H
     replace H : (some t202) = some r := H
     have A13 := qd.mk A130
     clear A130
     obtain rfl := Option.some.inj H
     go_wp2_with (first | ((with_reducible refine qp (f := 75) rfl ?_); refine za (some 17) rfl rfl Tryz.func75 yg rfl #[.string a1] rfl cz ?_; (with_reducible refine (q7.calls kj2 a1 true _ ?side1 A11.out).mono ?_); (case side1 => exact LibHeld.below HG.out cu); rintro e w14 ⟨rfl, hb⟩; refine ⟨_, rfl, ?_⟩; have n0_ := qd.mk (qf cu hb); clear HB; have HB := n0_; clear n0_; (try clear hb); (try clear hb2); (try clear hk); (try clear hi)) | ((with_reducible refine qp (f := 76) rfl ?_); refine za (some 20) rfl rfl Tryz.func76 yg rfl #[.string a0, .string a1] rfl cz ?_; (with_reducible refine (qv.calls kj2 a0 a1 t202 _ ?side1 A13.out).mono ?_); (case side1 => exact LibHeld.below HG.out cu); rintro e w15 ⟨rfl, hb⟩; refine ⟨_, rfl, ?_⟩; have n0_ := qd.mk (qf cu hb); clear HB; have HB := n0_; clear n0_; (try clear hb); (try clear hb2); (try clear hk); (try clear hi)))
     go_ret
     exact ⟨by first | rfl | (simp [qi, qj] <;> rfl) | (simp [*, qi, qj] <;> rfl), by repeat (first | (with_reducible first | exact HB.out | apply qb | apply qa | apply qc) | exact HB.out)⟩
    ·replace c12 := Bool.eq_false_iff.mpr c12
     subst c12
     have H1 : ((strings_Cut.f a0 (⟨#[64]⟩ : ByteArray)).bind fun bt203 => (if bt203.2.2 = true then (qq.j1 kj2 bt203.2.1 a1) else (qq.j1 kj2 a0 a1))) = some r := by rw [if_neg (show ¬ (false = true) by decide)] at H; exact H
     clear H
     have H := H1
     clear H1
     replace H := Option.bind_eq_some_iff.mp H
     obtain ⟨⟨t203, t204, t205⟩, A160, H⟩ := H
     replace H : (if t205 = true then (qq.j1 kj2 t204 a1) else (qq.j1 kj2 a0 a1)) = some r := H
     have A16 := qd.mk A160
     clear A160
     have HC17 := qd.mk H
     clear H
     go_upto_if 27 with (first | ((with_reducible refine qp (f := 75) rfl ?_); refine za (some 17) rfl rfl Tryz.func75 yg rfl #[.string a1] rfl cz ?_; (with_reducible refine (q7.calls kj2 a1 false _ ?side1 A11.out).mono ?_); (case side1 => exact LibHeld.below HG.out cu); rintro e w18 ⟨rfl, hb⟩; refine ⟨_, rfl, ?_⟩; have n0_ := qd.mk (qf cu hb); clear HB; have HB := n0_; clear n0_; (try clear hb); (try clear hb2); (try clear hk); (try clear hi)) | ((with_reducible refine qp (f := 114) rfl ?_); refine za (some 23) rfl rfl Tryz.func114 yg rfl #[.string a0, .string (⟨#[64]⟩ : ByteArray)] rfl cz ?_; (with_reducible refine (strings_Cut.calls a0 (⟨#[64]⟩ : ByteArray) t203 t204 t205 _ ?side1 A16.out).mono ?_); (case side1 => exact LibHeld.below HG.out cu); rintro e w19 ⟨rfl, hb⟩; refine ⟨_, rfl, ?_⟩; have n0_ := qd.mk (qf cu hb); clear HB; have HB := n0_; clear n0_; (try clear hb); (try clear hb2); (try clear hk); (try clear hi)))
     (try simp only [Act.put, List.setIfInBounds_toArray, List.set_cons_zero, List.set_cons_succ])
     go_cut [0] (fun v0 wc => ∃ (kq : Nat) (x0_16 : ByteArray), v0 = .string x0_16 ∧ qd (qq.j1 kq x0_16 a1 = some r) ∧ qd (kq ≤ kj2) ∧ qd (Below w.heap.size w wc))
     case first =>
      have H := HC17.out
      clear HC17
      by_cases c20 : t205 = true
      ·subst c20
       have H1 : (qq.j1 kj2 t204 a1) = some r := by rw [if_pos rfl] at H; exact H
       clear H
       have H := H1
       clear H1
       have H' := qd.mk H
       clear H
       go_wp2
       go_meet
       case rel => exact ⟨_, (t204), yf, H', ⟨by have := HJ2.out; first | omega | exact Nat.le_refl _⟩, ⟨by repeat (first | (with_reducible first | exact HB.out | apply qb | apply qa | apply qc) | exact HB.out)⟩⟩
      ·replace c20 := Bool.eq_false_iff.mpr c20
       subst c20
       have H1 : (qq.j1 kj2 a0 a1) = some r := by rw [if_neg (show ¬ (false = true) by decide)] at H; exact H
       clear H
       have H := H1
       clear H1
       have H' := qd.mk H
       clear H
       go_wp2
       go_meet
       case rel => exact ⟨_, (a0), yf, H', ⟨by have := HJ2.out; first | omega | exact Nat.le_refl _⟩, ⟨by repeat (first | (with_reducible first | exact HB.out | apply qb | apply qa | apply qc) | exact HB.out)⟩⟩
     case rest =>
      clear HC17
      (try clear c1); (try clear c2); (try clear p2); (try clear c5); (try clear c7); (try clear c8); (try clear c10); (try clear c11); (try clear c12); (try clear c20); try clear p2
      obtain ⟨kq, x0_16, rfl, HA, HJ16, HB⟩ := hcut
      cases kq with
      | zero => exact absurd HA.out (by simp [qq.j1])
      | succ kj16 =>
       have H := HA.out
       clear HA
       simp only [qq.j1] at H
       replace H := Option.bind_eq_some_iff.mp H
       obtain ⟨t206, A210, H⟩ := H
       replace H : (if t206 = true then (some true) else (if 0 < (a1.size : Int) then (if (bt a1 0) = 46 then ((z8.f x0_16 a1).bind fun t207 => (some t207)) else (some false)) else (none))) = some r := H
       have A21 := qd.mk A210
       clear A210
       by_cases c22 : t206 = true
       ·subst c22
        have H1 : (some true) = some r := by rw [if_pos rfl] at H; exact H
        clear H
        have H := H1
        clear H1
        obtain rfl := Option.some.inj H
        go_wp2_with (first | ((with_reducible refine qp (f := 117) rfl ?_); refine za (some 31) rfl rfl Tryz.func117 yg rfl #[.string x0_16, .string a1] rfl cz ?_; (with_reducible refine (zb.calls x0_16 a1 true _ A21.out).mono ?_); rintro e w23 ⟨rfl, hb⟩; refine ⟨_, rfl, ?_⟩; have n0_ := qd.mk (qf cu hb); clear HB; have HB := n0_; clear n0_; (try clear hb); (try clear hb2); (try clear hk); (try clear hi)))
        go_ret
        exact ⟨by first | rfl | (simp [qi, qj] <;> rfl) | (simp [*, qi, qj] <;> rfl), by repeat (first | (with_reducible first | exact HB.out | apply qb | apply qa | apply qc) | exact HB.out)⟩
       ·replace c22 := Bool.eq_false_iff.mpr c22
        subst c22
        have H1 : (if 0 < (a1.size : Int) then (if (bt a1 0) = 46 then ((z8.f x0_16 a1).bind fun t207 => (some t207)) else (some false)) else (none)) = some r := by rw [if_neg (show ¬ (false = true) by decide)] at H; exact H
        clear H
        have H := H1
        clear H1
        by_cases c24 : 0 < (a1.size : Int)
        ·rw [if_pos c24] at H
         have c24b0 : decide (0 < (a1.size : Int)) = true := decide_eq_true c24
         have c24b1 : decide (0 < a1.size) = true := decide_eq_true yo
         clear c24
         by_cases c26 : (bt a1 0) = 46
         ·rw [if_pos c26] at H
          have c26b0 : ((bt a1 0) == 46) = true := beq_iff_eq.mpr c26
          have c26b1 : ((bt a1 0) != 46) = false := bne_eq_false_iff_eq.mpr c26
          clear c26
          replace H := Option.bind_eq_some_iff.mp H
          obtain ⟨t207, A270, H⟩ := H
          replace H : (some t207) = some r := H
          have A27 := qd.mk A270
          clear A270
          obtain rfl := Option.some.inj H
          go_wp2_with (first | ((with_reducible refine qp (f := 117) rfl ?_); refine za (some 31) rfl rfl Tryz.func117 yg rfl #[.string x0_16, .string a1] rfl cz ?_; (with_reducible refine (zb.calls x0_16 a1 false _ A21.out).mono ?_); rintro e w28 ⟨rfl, hb⟩; refine ⟨_, rfl, ?_⟩; have n0_ := qd.mk (qf cu hb); clear HB; have HB := n0_; clear n0_; (try clear hb); (try clear hb2); (try clear hk); (try clear hi); have p25 : 0 ≤ (0 : Int) := yo; have q25 : 0 < a1.size := (by have : (0 : Int) < (a1.size : Int) := of_decide_eq_true yc; omega); have hx25 : ∀ h : 0 < a1.size, ((a1[0]'h).toNat : Int) = bt a1 0 := bt_at a1 0; clear p25; have qi25 : (0 < (a1.size : Int)) = True := eq_true (of_decide_eq_true yc); replace q25 := eq_true q25) | (go_at_call 119; (with_reducible refine (z8.calls x0_16 a1 t207 _ A27.out).mono ?_); rintro e w29 ⟨rfl, hb⟩; have n0_ := qd.mk (qf cu hb); clear HB; have HB := n0_; clear n0_; (try clear hb); (try clear hb2); (try clear hk); (try clear hi)))
          go_ret
          exact ⟨by first | rfl | (simp [qi, qj] <;> rfl) | (simp [*, qi, qj] <;> rfl), by repeat (first | (with_reducible first | exact HB.out | apply qb | apply qa | apply qc) | exact HB.out)⟩
         ·rw [if_neg c26] at H
          have c26b0 : ((bt a1 0) == 46) = false := beq_eq_false_iff_ne.mpr c26
          have c26b1 : ((bt a1 0) != 46) = true := bne_iff_ne.mpr c26
          obtain rfl := Option.some.inj H
          go_wp2_with (first | ((with_reducible refine qp (f := 117) rfl ?_); refine za (some 31) rfl rfl Tryz.func117 yg rfl #[.string x0_16, .string a1] rfl cz ?_; (with_reducible refine (zb.calls x0_16 a1 false _ A21.out).mono ?_); rintro e w30 ⟨rfl, hb⟩; refine ⟨_, rfl, ?_⟩; have n0_ := qd.mk (qf cu hb); clear HB; have HB := n0_; clear n0_; (try clear hb); (try clear hb2); (try clear hk); (try clear hi); have p25 : 0 ≤ (0 : Int) := yo; have q25 : 0 < a1.size := (by have : (0 : Int) < (a1.size : Int) := of_decide_eq_true yc; omega); have hx25 : ∀ h : 0 < a1.size, ((a1[0]'h).toNat : Int) = bt a1 0 := bt_at a1 0; clear p25; have qi25 : (0 < (a1.size : Int)) = True := eq_true (of_decide_eq_true yc); replace q25 := eq_true q25))
          go_ret
          exact ⟨by first | rfl | (simp [qi, qj] <;> rfl) | (simp [*, qi, qj] <;> rfl), by repeat (first | (with_reducible first | exact HB.out | apply qb | apply qa | apply qc) | exact HB.out)⟩
        ·rw [if_neg c24] at H
         exact absurd H y7
def z7.f (k : Nat) (a0 : ByteArray) : Option (Bool) := if a0.toList = ([] : List UInt8) then (some true) else ((q3.f k a0).bind fun t208 => (some t208))
theorem z7.mono : ∀ a0 k, LeO (z7.f k a0) (z7.f (k + 1) a0) := by
 intro a0 k
 unfold z7.f
 repeat' first
   | (with_reducible exact q3.mono _ _)
   | (with_reducible exact LeO.refl _)
   | (with_reducible exact LeO.none _)
   | (with_reducible refine LeO.ite ?_ ?_)
   | (with_reducible refine LeO.bind ?_ (fun _ => ?_))
set_option maxHeartbeats 8000000 in
set_option maxRecDepth 100000 in
theorem z7.calls (k : Nat) (a0 : ByteArray) (r : Bool) (w : World) (hG : LibHeld w) (h : z7.f k a0 = some r) :
  Calls Tryz.prog 106 #[.string a0] w fun e w' => e = .returned (.bool r) ∧ Below w.heap.size w w' := by
 have HG := qd.mk hG
 clear hG
 have HB := qd.mk (Below.refl w.heap.size w)
 have H : (if a0.toList = ([] : List UInt8) then (some true) else ((q3.f k a0).bind fun t208 => (some t208))) = some r := h
 clear h
 by_cases c2 : a0.toList = ([] : List UInt8)
 ·rw [if_pos c2] at H
  have c2b0 : (a0.toList == ([] : List UInt8)) = true := beq_iff_eq.mpr c2
  have c2b1 : (a0.toList != ([] : List UInt8)) = false := bne_eq_false_iff_eq.mpr c2
  clear c2
  obtain rfl := Option.some.inj H
  go_enter Tryz.func106, Tryz.ntmps106
  go_wp2
  go_ret
  exact ⟨by first | rfl | (simp [qi, qj] <;> rfl) | (simp [*, qi, qj] <;> rfl), by repeat (first | (with_reducible first | exact HB.out | apply qb | apply qa | apply qc) | exact HB.out)⟩
 ·rw [if_neg c2] at H
  have c2b0 : (a0.toList == ([] : List UInt8)) = false := beq_eq_false_iff_ne.mpr c2
  have c2b1 : (a0.toList != ([] : List UInt8)) = true := bne_iff_ne.mpr c2
  replace H := Option.bind_eq_some_iff.mp H
  obtain ⟨t208, A30, H⟩ := H
  replace H : (some t208) = some r := H
  have A3 := qd.mk A30
  clear A30
  obtain rfl := Option.some.inj H
  go_enter Tryz.func106, Tryz.ntmps106
  go_wp2_with (first | (go_at_call 116; (with_reducible refine (q3.calls k a0 t208 _ ?side1 A3.out).mono ?_); (case side1 => exact LibHeld.below HG.out cu); rintro e w4 ⟨rfl, hb⟩; have n0_ := qd.mk (qf cu hb); clear HB; have HB := n0_; clear n0_; (try clear hb); (try clear hb2); (try clear hk); (try clear hi)))
  go_ret
  exact ⟨by first | rfl | (simp [qi, qj] <;> rfl) | (simp [*, qi, qj] <;> rfl), by repeat (first | (with_reducible first | exact HB.out | apply qb | apply qa | apply qc) | exact HB.out)⟩
end Go.Proofs.YtlamfnaoemingaaGreatDoor.C
end
section
namespace Go.Proofs.YtlamfnaoemingaaGreatDoor.C
open Go.RowKit Go.Proofs.YtlamfnaoemingaaGreatDoorW.PrintWords Go.Proofs.YtlamfnaoemingaaGreatDoorW.PrintLast Go.Proofs.YtlamfnaoemingaaGreatDoorW.PrintMore
attribute [local go_sem] zw zx xe xd zn zp zy zz
set_option linter.unusedVariables false
set_option linter.unusedSimpArgs false
def stringslite_CutPrefix.f (a0 : ByteArray) (a1 : ByteArray) : Option (ByteArray × Bool) := (stringslite_HasPrefix.f a0 a1).bind fun t209 => (if t209 = true then (if 0 ≤ (a1.size : Int) then (if (a1.size : Int) ≤ (a0.size : Int) then (some (a0.extract ((a1.size : Int) : Int).toNat a0.size, true)) else (none)) else (none)) else (some (a0, false)))
set_option maxHeartbeats 8000000 in
set_option maxRecDepth 100000 in
theorem stringslite_CutPrefix.calls (a0 : ByteArray) (a1 : ByteArray) (r1 : ByteArray) (r2 : Bool) (w : World) (h : stringslite_CutPrefix.f a0 a1 = some (r1, r2)) :
  Calls Tryz.prog 146 #[.string a0, .string a1] w fun e w' => e = .returned (.tuple #[.string r1, .bool r2]) ∧ qy w w' := by
 have H : ((stringslite_HasPrefix.f a0 a1).bind fun t209 => (if t209 = true then (if 0 ≤ (a1.size : Int) then (if (a1.size : Int) ≤ (a0.size : Int) then (some (a0.extract ((a1.size : Int) : Int).toNat a0.size, true)) else (none)) else (none)) else (some (a0, false)))) = some (r1, r2) := h
 clear h
 replace H := Option.bind_eq_some_iff.mp H
 obtain ⟨t209, A30, H⟩ := H
 replace H : (if t209 = true then (if 0 ≤ (a1.size : Int) then (if (a1.size : Int) ≤ (a0.size : Int) then (some (a0.extract ((a1.size : Int) : Int).toNat a0.size, true)) else (none)) else (none)) else (some (a0, false))) = some (r1, r2) := H
 have A3 := qd.mk A30
 clear A30
 by_cases c4 : t209 = true
 ·subst c4
  have H1 : (if 0 ≤ (a1.size : Int) then (if (a1.size : Int) ≤ (a0.size : Int) then (some (a0.extract ((a1.size : Int) : Int).toNat a0.size, true)) else (none)) else (none)) = some (r1, r2) := by rw [if_pos rfl] at H; exact H
  clear H
  have H := H1
  clear H1
  by_cases c5 : 0 ≤ (a1.size : Int)
  ·rw [if_pos c5] at H
   have c5b0 := eq_true c5
   have c5b1 : decide (0 ≤ (a1.size : Int)) = true := decide_eq_true c5
   clear c5
   by_cases c6 : (a1.size : Int) ≤ (a0.size : Int)
   ·rw [if_pos c6] at H
    have c6b0 := eq_true c6
    have c6b1 : decide ((a1.size : Int) ≤ (a0.size : Int)) = true := decide_eq_true c6
    clear c6
    simp only [Option.some.injEq, Prod.mk.injEq] at H
    obtain ⟨rfl, rfl⟩ := H
    go_enter Tryz.func146, Tryz.ntmps146
    go_wp2_with (first | ((with_reducible refine qp (f := 168) rfl ?_); refine za (some 8) rfl rfl Tryz.func168 yg rfl #[.string a0, .string a1] rfl cz ?_; (with_reducible refine (stringslite_HasPrefix.calls a0 a1 true _ A3.out).mono ?_); rintro e w' ⟨rfl, ⟨nd, rfl⟩⟩; refine ⟨_, rfl, ?_⟩))
    go_ret2
    exact ⟨by first | rfl | (simp; done) | (simp [*]; done), by repeat (first | exact qy.refl _ | apply qy.step)⟩
   ·rw [if_neg c6] at H
    exact absurd H y7
  ·rw [if_neg c5] at H
   exact absurd H y7
 ·replace c4 := Bool.eq_false_iff.mpr c4
  subst c4
  have H1 : (some (a0, false)) = some (r1, r2) := by rw [if_neg (show ¬ (false = true) by decide)] at H; exact H
  clear H
  have H := H1
  clear H1
  simp only [Option.some.injEq, Prod.mk.injEq] at H
  obtain ⟨rfl, rfl⟩ := H
  go_enter Tryz.func146, Tryz.ntmps146
  go_wp2_with (first | ((with_reducible refine qp (f := 168) rfl ?_); refine za (some 8) rfl rfl Tryz.func168 yg rfl #[.string a0, .string a1] rfl cz ?_; (with_reducible refine (stringslite_HasPrefix.calls a0 a1 false _ A3.out).mono ?_); rintro e w' ⟨rfl, ⟨nd, rfl⟩⟩; refine ⟨_, rfl, ?_⟩))
  go_ret2
  exact ⟨by first | rfl | (simp; done) | (simp [*]; done), by repeat (first | exact qy.refl _ | apply qy.step)⟩
def strings_CutPrefix.f (a0 : ByteArray) (a1 : ByteArray) : Option (ByteArray × Bool) := (stringslite_CutPrefix.f a0 a1).bind fun bt210 => (some (bt210.1, bt210.2))
set_option maxHeartbeats 8000000 in
set_option maxRecDepth 100000 in
theorem strings_CutPrefix.calls (a0 : ByteArray) (a1 : ByteArray) (r1 : ByteArray) (r2 : Bool) (w : World) (h : strings_CutPrefix.f a0 a1 = some (r1, r2)) :
  Calls Tryz.prog 118 #[.string a0, .string a1] w fun e w' => e = .returned (.tuple #[.string r1, .bool r2]) ∧ qy w w' := by
 have H : ((stringslite_CutPrefix.f a0 a1).bind fun bt210 => (some (bt210.1, bt210.2))) = some (r1, r2) := h
 clear h
 replace H := Option.bind_eq_some_iff.mp H
 obtain ⟨⟨t210, t211⟩, A30, H⟩ := H
 replace H : (some (t210, t211)) = some (r1, r2) := H
 have A3 := qd.mk A30
 clear A30
 simp only [Option.some.injEq, Prod.mk.injEq] at H
 obtain ⟨rfl, rfl⟩ := H
 go_enter Tryz.func118, Tryz.ntmps118
 go_wp2_with (first | ((with_reducible refine qp (f := 146) rfl ?_); refine za (some 8) rfl rfl Tryz.func146 yg rfl #[.string a0, .string a1] rfl cz ?_; (with_reducible refine (stringslite_CutPrefix.calls a0 a1 t210 t211 _ A3.out).mono ?_); rintro e w' ⟨rfl, ⟨nd, rfl⟩⟩; refine ⟨_, rfl, ?_⟩))
 go_ret2
 exact ⟨by first | rfl | (simp; done) | (simp [*]; done), by repeat (first | exact qy.refl _ | apply qy.step)⟩
def zf.f (k : Nat) (a0 : ByteArray) : Option (Bool) := (strings_CutPrefix.f a0 (⟨#[42, 46]⟩ : ByteArray)).bind fun bt212 => (if bt212.2 = true then (if (a0.size : Int) ≤ 128 then ((q3.f k bt212.1).bind fun t214 => (if t214 = true then ((strings_Contains.f bt212.1 (⟨#[46]⟩ : ByteArray)).bind fun t215 => (some t215)) else (some false))) else (some false)) else ((q3.f k a0).bind fun t216 => (some t216)))
theorem zf.mono : ∀ a0 k, LeO (zf.f k a0) (zf.f (k + 1) a0) := by
 intro a0 k
 unfold zf.f
 repeat' first
   | (with_reducible exact q3.mono _ _)
   | (with_reducible exact LeO.refl _)
   | (with_reducible exact LeO.none _)
   | (with_reducible refine LeO.ite ?_ ?_)
   | (with_reducible refine LeO.bind ?_ (fun _ => ?_))
set_option maxHeartbeats 8000000 in
set_option maxRecDepth 100000 in
theorem zf.calls (k : Nat) (a0 : ByteArray) (r : Bool) (w : World) (hG : LibHeld w) (h : zf.f k a0 = some r) :
  Calls Tryz.prog 107 #[.string a0] w fun e w' => e = .returned (.bool r) ∧ Below w.heap.size w w' := by
 have HG := qd.mk hG
 clear hG
 have HB := qd.mk (Below.refl w.heap.size w)
 have H : ((strings_CutPrefix.f a0 (⟨#[42, 46]⟩ : ByteArray)).bind fun bt212 => (if bt212.2 = true then (if (a0.size : Int) ≤ 128 then ((q3.f k bt212.1).bind fun t214 => (if t214 = true then ((strings_Contains.f bt212.1 (⟨#[46]⟩ : ByteArray)).bind fun t215 => (some t215)) else (some false))) else (some false)) else ((q3.f k a0).bind fun t216 => (some t216)))) = some r := h
 clear h
 replace H := Option.bind_eq_some_iff.mp H
 obtain ⟨⟨t212, t213⟩, A20, H⟩ := H
 replace H : (if t213 = true then (if (a0.size : Int) ≤ 128 then ((q3.f k t212).bind fun t214 => (if t214 = true then ((strings_Contains.f t212 (⟨#[46]⟩ : ByteArray)).bind fun t215 => (some t215)) else (some false))) else (some false)) else ((q3.f k a0).bind fun t216 => (some t216))) = some r := H
 have A2 := qd.mk A20
 clear A20
 by_cases c3 : t213 = true
 ·subst c3
  have H1 : (if (a0.size : Int) ≤ 128 then ((q3.f k t212).bind fun t214 => (if t214 = true then ((strings_Contains.f t212 (⟨#[46]⟩ : ByteArray)).bind fun t215 => (some t215)) else (some false))) else (some false)) = some r := by rw [if_pos rfl] at H; exact H
  clear H
  have H := H1
  clear H1
  by_cases c4 : (a0.size : Int) ≤ 128
  ·rw [if_pos c4] at H
   have c4b0 : decide ((a0.size : Int) ≤ 128) = true := decide_eq_true c4
   have c4b1 : decide (a0.size ≤ 128) = true := decide_eq_true yo
   clear c4
   replace H := Option.bind_eq_some_iff.mp H
   obtain ⟨t214, A50, H⟩ := H
   replace H : (if t214 = true then ((strings_Contains.f t212 (⟨#[46]⟩ : ByteArray)).bind fun t215 => (some t215)) else (some false)) = some r := H
   have A5 := qd.mk A50
   clear A50
   by_cases c6 : t214 = true
   ·subst c6
    have H1 : ((strings_Contains.f t212 (⟨#[46]⟩ : ByteArray)).bind fun t215 => (some t215)) = some r := by rw [if_pos rfl] at H; exact H
    clear H
    have H := H1
    clear H1
    replace H := Option.bind_eq_some_iff.mp H
    obtain ⟨t215, A70, H⟩ := H
    replace H : (some t215) = some r := H
    have A7 := qd.mk A70
    clear A70
    obtain rfl := Option.some.inj H
    go_enter Tryz.func107, Tryz.ntmps107
    go_wp2_with (first | ((with_reducible refine qp (f := 118) rfl ?_); refine za (some 7) rfl rfl Tryz.func118 yg rfl #[.string a0, .string (⟨#[42, 46]⟩ : ByteArray)] rfl cz ?_; (with_reducible refine (strings_CutPrefix.calls a0 (⟨#[42, 46]⟩ : ByteArray) t212 true _ A2.out).mono ?_); rintro e w' ⟨rfl, ⟨nd, rfl⟩⟩; refine ⟨_, rfl, ?_⟩) | (go_at_call 116; (with_reducible refine (q3.calls k t212 true _ ?side1 A5.out).mono ?_); (case side1 => exact LibHeld.below HG.out cu); rintro e w8 ⟨rfl, hb⟩; have n0_ := qd.mk (qf cu hb); clear HB; have HB := n0_; clear n0_; (try clear hb); (try clear hb2); (try clear hk); (try clear hi)) | (go_at_call 133; (with_reducible refine (strings_Contains.calls t212 (⟨#[46]⟩ : ByteArray) t215 _ ?side1 A7.out).mono ?_); (case side1 => exact LibHeld.below HG.out cu); rintro e w9 ⟨rfl, hb⟩; have n0_ := qd.mk (qf cu hb); clear HB; have HB := n0_; clear n0_; (try clear hb); (try clear hb2); (try clear hk); (try clear hi)))
    go_ret
    exact ⟨by first | rfl | (simp [qi, qj] <;> rfl) | (simp [*, qi, qj] <;> rfl), by repeat (first | (with_reducible first | exact HB.out | apply qb | apply qa | apply qc) | exact HB.out)⟩
   ·replace c6 := Bool.eq_false_iff.mpr c6
    subst c6
    have H1 : (some false) = some r := by rw [if_neg (show ¬ (false = true) by decide)] at H; exact H
    clear H
    have H := H1
    clear H1
    obtain rfl := Option.some.inj H
    go_enter Tryz.func107, Tryz.ntmps107
    go_wp2_with (first | ((with_reducible refine qp (f := 118) rfl ?_); refine za (some 7) rfl rfl Tryz.func118 yg rfl #[.string a0, .string (⟨#[42, 46]⟩ : ByteArray)] rfl cz ?_; (with_reducible refine (strings_CutPrefix.calls a0 (⟨#[42, 46]⟩ : ByteArray) t212 true _ A2.out).mono ?_); rintro e w' ⟨rfl, ⟨nd, rfl⟩⟩; refine ⟨_, rfl, ?_⟩) | (go_at_call 116; (with_reducible refine (q3.calls k t212 false _ ?side1 A5.out).mono ?_); (case side1 => exact LibHeld.below HG.out cu); rintro e w10 ⟨rfl, hb⟩; have n0_ := qd.mk (qf cu hb); clear HB; have HB := n0_; clear n0_; (try clear hb); (try clear hb2); (try clear hk); (try clear hi)))
    go_ret
    exact ⟨by first | rfl | (simp [qi, qj] <;> rfl) | (simp [*, qi, qj] <;> rfl), by repeat (first | (with_reducible first | exact HB.out | apply qb | apply qa | apply qc) | exact HB.out)⟩
  ·rw [if_neg c4] at H
   have c4b0 : decide ((a0.size : Int) ≤ 128) = false := decide_eq_false c4
   have c4b1 : decide (a0.size ≤ 128) = false := decide_eq_false yo
   clear c4
   obtain rfl := Option.some.inj H
   go_enter Tryz.func107, Tryz.ntmps107
   go_wp2_with (first | ((with_reducible refine qp (f := 118) rfl ?_); refine za (some 7) rfl rfl Tryz.func118 yg rfl #[.string a0, .string (⟨#[42, 46]⟩ : ByteArray)] rfl cz ?_; (with_reducible refine (strings_CutPrefix.calls a0 (⟨#[42, 46]⟩ : ByteArray) t212 true _ A2.out).mono ?_); rintro e w' ⟨rfl, ⟨nd, rfl⟩⟩; refine ⟨_, rfl, ?_⟩))
   go_ret
   exact ⟨by first | rfl | (simp [qi, qj] <;> rfl) | (simp [*, qi, qj] <;> rfl), by repeat (first | (with_reducible first | exact HB.out | apply qb | apply qa | apply qc) | exact HB.out)⟩
 ·replace c3 := Bool.eq_false_iff.mpr c3
  subst c3
  have H1 : ((q3.f k a0).bind fun t216 => (some t216)) = some r := by rw [if_neg (show ¬ (false = true) by decide)] at H; exact H
  clear H
  have H := H1
  clear H1
  replace H := Option.bind_eq_some_iff.mp H
  obtain ⟨t216, A110, H⟩ := H
  replace H : (some t216) = some r := H
  have A11 := qd.mk A110
  clear A110
  obtain rfl := Option.some.inj H
  go_enter Tryz.func107, Tryz.ntmps107
  go_wp2_with (first | ((with_reducible refine qp (f := 118) rfl ?_); refine za (some 7) rfl rfl Tryz.func118 yg rfl #[.string a0, .string (⟨#[42, 46]⟩ : ByteArray)] rfl cz ?_; (with_reducible refine (strings_CutPrefix.calls a0 (⟨#[42, 46]⟩ : ByteArray) t212 false _ A2.out).mono ?_); rintro e w' ⟨rfl, ⟨nd, rfl⟩⟩; refine ⟨_, rfl, ?_⟩) | ((with_reducible refine qp (f := 116) rfl ?_); refine za (some 23) rfl rfl Tryz.func116 yg rfl #[.string a0] rfl cz ?_; (with_reducible refine (q3.calls k a0 t216 _ ?side1 A11.out).mono ?_); (case side1 => exact LibHeld.below HG.out cu); rintro e w12 ⟨rfl, hb⟩; refine ⟨_, rfl, ?_⟩; have n0_ := qd.mk (qf cu hb); clear HB; have HB := n0_; clear n0_; (try clear hb); (try clear hb2); (try clear hk); (try clear hi)))
  go_ret
  exact ⟨by first | rfl | (simp [qi, qj] <;> rfl) | (simp [*, qi, qj] <;> rfl), by repeat (first | (with_reducible first | exact HB.out | apply qb | apply qa | apply qc) | exact HB.out)⟩
end Go.Proofs.YtlamfnaoemingaaGreatDoor.C
end
section
namespace Go.Proofs.YtlamfnaoemingaaGreatDoor.C
open Go.RowKit Go.Proofs.YtlamfnaoemingaaGreatDoorW.PrintWords Go.Proofs.YtlamfnaoemingaaGreatDoorW.PrintLast Go.Proofs.YtlamfnaoemingaaGreatDoorW.PrintMore
attribute [local go_sem] zw zx xe xd zn zp zy zz
set_option linter.unusedVariables false
set_option linter.unusedSimpArgs false
def xa.f (k : Nat) (a0 : ByteArray) (a1 : ByteArray) : Option (Bool) := if a0.toList = ([] : List UInt8) then ((z7.f k a1).bind fun t217 => (if t217 = true then (if a1.toList = ([] : List UInt8) then (some true) else ((zb.f a0 a1).bind fun t218 => (if t218 = true then (some true) else (if 1 + a1.size ≤ 9223372036854775807 then ((z8.f a0 ((⟨#[46]⟩ : ByteArray) ++ a1)).bind fun t219 => (some t219)) else (none))))) else (some false))) else ((zf.f k a0).bind fun t220 => (if t220 = true then ((z7.f k a1).bind fun t221 => (if t221 = true then (if a1.toList = ([] : List UInt8) then (some true) else ((zb.f a0 a1).bind fun t222 => (if t222 = true then (some true) else (if 1 + a1.size ≤ 9223372036854775807 then ((z8.f a0 ((⟨#[46]⟩ : ByteArray) ++ a1)).bind fun t223 => (some t223)) else (none))))) else (some false))) else (some false)))
theorem xa.mono : ∀ a0 a1 k, LeO (xa.f k a0 a1) (xa.f (k + 1) a0 a1) := by
 intro a0 a1 k
 unfold xa.f
 repeat' first
   | (with_reducible exact z7.mono _ _)
   | (with_reducible exact zf.mono _ _)
   | (with_reducible exact LeO.refl _)
   | (with_reducible exact LeO.none _)
   | (with_reducible refine LeO.ite ?_ ?_)
   | (with_reducible refine LeO.bind ?_ (fun _ => ?_))
set_option maxHeartbeats 8000000 in
set_option maxRecDepth 100000 in
theorem xa.calls (k : Nat) (a0 : ByteArray) (a1 : ByteArray) (r : Bool) (w : World) (hG : LibHeld w) (h : xa.f k a0 a1 = some r) :
  Calls Tryz.prog 85 #[.string a0, .string a1] w fun e w' => e = .returned (.bool r) ∧ Below w.heap.size w w' := by
 have HG := qd.mk hG
 clear hG
 have HB := qd.mk (Below.refl w.heap.size w)
 have H : (if a0.toList = ([] : List UInt8) then ((z7.f k a1).bind fun t217 => (if t217 = true then (if a1.toList = ([] : List UInt8) then (some true) else ((zb.f a0 a1).bind fun t218 => (if t218 = true then (some true) else (if 1 + a1.size ≤ 9223372036854775807 then ((z8.f a0 ((⟨#[46]⟩ : ByteArray) ++ a1)).bind fun t219 => (some t219)) else (none))))) else (some false))) else ((zf.f k a0).bind fun t220 => (if t220 = true then ((z7.f k a1).bind fun t221 => (if t221 = true then (if a1.toList = ([] : List UInt8) then (some true) else ((zb.f a0 a1).bind fun t222 => (if t222 = true then (some true) else (if 1 + a1.size ≤ 9223372036854775807 then ((z8.f a0 ((⟨#[46]⟩ : ByteArray) ++ a1)).bind fun t223 => (some t223)) else (none))))) else (some false))) else (some false)))) = some r := h
 clear h
 by_cases c3 : a0.toList = ([] : List UInt8)
 ·rw [if_pos c3] at H
  have c3b0 : (a0.toList == ([] : List UInt8)) = true := beq_iff_eq.mpr c3
  have c3b1 : (a0.toList != ([] : List UInt8)) = false := bne_eq_false_iff_eq.mpr c3
  clear c3
  replace H := Option.bind_eq_some_iff.mp H
  obtain ⟨t217, A40, H⟩ := H
  replace H : (if t217 = true then (if a1.toList = ([] : List UInt8) then (some true) else ((zb.f a0 a1).bind fun t218 => (if t218 = true then (some true) else (if 1 + a1.size ≤ 9223372036854775807 then ((z8.f a0 ((⟨#[46]⟩ : ByteArray) ++ a1)).bind fun t219 => (some t219)) else (none))))) else (some false)) = some r := H
  have A4 := qd.mk A40
  clear A40
  by_cases c5 : t217 = true
  ·subst c5
   have H1 : (if a1.toList = ([] : List UInt8) then (some true) else ((zb.f a0 a1).bind fun t218 => (if t218 = true then (some true) else (if 1 + a1.size ≤ 9223372036854775807 then ((z8.f a0 ((⟨#[46]⟩ : ByteArray) ++ a1)).bind fun t219 => (some t219)) else (none))))) = some r := by rw [if_pos rfl] at H; exact H
   clear H
   have H := H1
   clear H1
   by_cases c6 : a1.toList = ([] : List UInt8)
   ·rw [if_pos c6] at H
    have c6b0 : (a1.toList == ([] : List UInt8)) = true := beq_iff_eq.mpr c6
    have c6b1 : (a1.toList != ([] : List UInt8)) = false := bne_eq_false_iff_eq.mpr c6
    clear c6
    obtain rfl := Option.some.inj H
    go_enter Tryz.func85, Tryz.ntmps85
    go_wp2_with (first | (go_at_call 106; (with_reducible refine (z7.calls k a1 true _ ?side1 A4.out).mono ?_); (case side1 => exact LibHeld.below HG.out cu); rintro e w7 ⟨rfl, hb⟩; have n0_ := qd.mk (qf cu hb); clear HB; have HB := n0_; clear n0_; (try clear hb); (try clear hb2); (try clear hk); (try clear hi)))
    go_ret
    exact ⟨by first | rfl | (simp [qi, qj] <;> rfl) | (simp [*, qi, qj] <;> rfl), by repeat (first | (with_reducible first | exact HB.out | apply qb | apply qa | apply qc) | exact HB.out)⟩
   ·rw [if_neg c6] at H
    have c6b0 : (a1.toList == ([] : List UInt8)) = false := beq_eq_false_iff_ne.mpr c6
    have c6b1 : (a1.toList != ([] : List UInt8)) = true := bne_iff_ne.mpr c6
    replace H := Option.bind_eq_some_iff.mp H
    obtain ⟨t218, A80, H⟩ := H
    replace H : (if t218 = true then (some true) else (if 1 + a1.size ≤ 9223372036854775807 then ((z8.f a0 ((⟨#[46]⟩ : ByteArray) ++ a1)).bind fun t219 => (some t219)) else (none))) = some r := H
    have A8 := qd.mk A80
    clear A80
    by_cases c9 : t218 = true
    ·subst c9
     have H1 : (some true) = some r := by rw [if_pos rfl] at H; exact H
     clear H
     have H := H1
     clear H1
     obtain rfl := Option.some.inj H
     go_enter Tryz.func85, Tryz.ntmps85
     go_wp2_with (first | (go_at_call 106; (with_reducible refine (z7.calls k a1 true _ ?side1 A4.out).mono ?_); (case side1 => exact LibHeld.below HG.out cu); rintro e w10 ⟨rfl, hb⟩; have n0_ := qd.mk (qf cu hb); clear HB; have HB := n0_; clear n0_; (try clear hb); (try clear hb2); (try clear hk); (try clear hi)) | (go_at_call 117; (with_reducible refine (zb.calls a0 a1 true _ A8.out).mono ?_); rintro e w11 ⟨rfl, hb⟩; have n0_ := qd.mk (qf cu hb); clear HB; have HB := n0_; clear n0_; (try clear hb); (try clear hb2); (try clear hk); (try clear hi)))
     go_ret
     exact ⟨by first | rfl | (simp [qi, qj] <;> rfl) | (simp [*, qi, qj] <;> rfl), by repeat (first | (with_reducible first | exact HB.out | apply qb | apply qa | apply qc) | exact HB.out)⟩
    ·replace c9 := Bool.eq_false_iff.mpr c9
     subst c9
     have H1 : (if 1 + a1.size ≤ 9223372036854775807 then ((z8.f a0 ((⟨#[46]⟩ : ByteArray) ++ a1)).bind fun t219 => (some t219)) else (none)) = some r := by rw [if_neg (show ¬ (false = true) by decide)] at H; exact H
     clear H
     have H := H1
     clear H1
     by_cases c12 : 1 + a1.size ≤ 9223372036854775807
     ·rw [if_pos c12] at H
      have c12b0 := eq_true c12
      have c12b1 : decide (1 + a1.size ≤ 9223372036854775807) = true := decide_eq_true c12
      try have c12b2 : (9223372036854775807 < 1 + a1.size) = False := eq_false (Nat.not_lt.2 c12)
      replace H := Option.bind_eq_some_iff.mp H
      obtain ⟨t219, A130, H⟩ := H
      replace H : (some t219) = some r := H
      have A13 := qd.mk A130
      clear A130
      obtain rfl := Option.some.inj H
      go_enter Tryz.func85, Tryz.ntmps85
      go_wp2_with (first | (go_at_call 106; (with_reducible refine (z7.calls k a1 true _ ?side1 A4.out).mono ?_); (case side1 => exact LibHeld.below HG.out cu); rintro e w14 ⟨rfl, hb⟩; have n0_ := qd.mk (qf cu hb); clear HB; have HB := n0_; clear n0_; (try clear hb); (try clear hb2); (try clear hk); (try clear hi)) | (go_at_call 117; (with_reducible refine (zb.calls a0 a1 false _ A8.out).mono ?_); rintro e w15 ⟨rfl, hb⟩; have n0_ := qd.mk (qf cu hb); clear HB; have HB := n0_; clear n0_; (try clear hb); (try clear hb2); (try clear hk); (try clear hi)) | (go_at_call 119; (with_reducible refine (z8.calls a0 ((⟨#[46]⟩ : ByteArray) ++ a1) t219 _ A13.out).mono ?_); rintro e w16 ⟨rfl, hb⟩; have n0_ := qd.mk (qf cu hb); clear HB; have HB := n0_; clear n0_; (try clear hb); (try clear hb2); (try clear hk); (try clear hi)))
      go_ret
      exact ⟨by first | rfl | (simp [qi, qj] <;> rfl) | (simp [*, qi, qj] <;> rfl), by repeat (first | (with_reducible first | exact HB.out | apply qb | apply qa | apply qc) | exact HB.out)⟩
     ·rw [if_neg c12] at H
      exact absurd H y7
  ·replace c5 := Bool.eq_false_iff.mpr c5
   subst c5
   have H1 : (some false) = some r := by rw [if_neg (show ¬ (false = true) by decide)] at H; exact H
   clear H
   have H := H1
   clear H1
   obtain rfl := Option.some.inj H
   go_enter Tryz.func85, Tryz.ntmps85
   go_wp2_with (first | (go_at_call 106; (with_reducible refine (z7.calls k a1 false _ ?side1 A4.out).mono ?_); (case side1 => exact LibHeld.below HG.out cu); rintro e w17 ⟨rfl, hb⟩; have n0_ := qd.mk (qf cu hb); clear HB; have HB := n0_; clear n0_; (try clear hb); (try clear hb2); (try clear hk); (try clear hi)))
   go_ret
   exact ⟨by first | rfl | (simp [qi, qj] <;> rfl) | (simp [*, qi, qj] <;> rfl), by repeat (first | (with_reducible first | exact HB.out | apply qb | apply qa | apply qc) | exact HB.out)⟩
 ·rw [if_neg c3] at H
  have c3b0 : (a0.toList == ([] : List UInt8)) = false := beq_eq_false_iff_ne.mpr c3
  have c3b1 : (a0.toList != ([] : List UInt8)) = true := bne_iff_ne.mpr c3
  replace H := Option.bind_eq_some_iff.mp H
  obtain ⟨t220, A180, H⟩ := H
  replace H : (if t220 = true then ((z7.f k a1).bind fun t221 => (if t221 = true then (if a1.toList = ([] : List UInt8) then (some true) else ((zb.f a0 a1).bind fun t222 => (if t222 = true then (some true) else (if 1 + a1.size ≤ 9223372036854775807 then ((z8.f a0 ((⟨#[46]⟩ : ByteArray) ++ a1)).bind fun t223 => (some t223)) else (none))))) else (some false))) else (some false)) = some r := H
  have A18 := qd.mk A180
  clear A180
  by_cases c19 : t220 = true
  ·subst c19
   have H1 : ((z7.f k a1).bind fun t221 => (if t221 = true then (if a1.toList = ([] : List UInt8) then (some true) else ((zb.f a0 a1).bind fun t222 => (if t222 = true then (some true) else (if 1 + a1.size ≤ 9223372036854775807 then ((z8.f a0 ((⟨#[46]⟩ : ByteArray) ++ a1)).bind fun t223 => (some t223)) else (none))))) else (some false))) = some r := by rw [if_pos rfl] at H; exact H
   clear H
   have H := H1
   clear H1
   replace H := Option.bind_eq_some_iff.mp H
   obtain ⟨t221, A200, H⟩ := H
   replace H : (if t221 = true then (if a1.toList = ([] : List UInt8) then (some true) else ((zb.f a0 a1).bind fun t222 => (if t222 = true then (some true) else (if 1 + a1.size ≤ 9223372036854775807 then ((z8.f a0 ((⟨#[46]⟩ : ByteArray) ++ a1)).bind fun t223 => (some t223)) else (none))))) else (some false)) = some r := H
   have A20 := qd.mk A200
   clear A200
   by_cases c21 : t221 = true
   ·subst c21
    have H1 : (if a1.toList = ([] : List UInt8) then (some true) else ((zb.f a0 a1).bind fun t222 => (if t222 = true then (some true) else (if 1 + a1.size ≤ 9223372036854775807 then ((z8.f a0 ((⟨#[46]⟩ : ByteArray) ++ a1)).bind fun t223 => (some t223)) else (none))))) = some r := by rw [if_pos rfl] at H; exact H
    clear H
    have H := H1
    clear H1
    by_cases c22 : a1.toList = ([] : List UInt8)
    ·rw [if_pos c22] at H
     have c22b0 : (a1.toList == ([] : List UInt8)) = true := beq_iff_eq.mpr c22
     have c22b1 : (a1.toList != ([] : List UInt8)) = false := bne_eq_false_iff_eq.mpr c22
     clear c22
     obtain rfl := Option.some.inj H
     go_enter Tryz.func85, Tryz.ntmps85
     go_wp2_with (first | (go_at_call 107; (with_reducible refine (zf.calls k a0 true _ ?side1 A18.out).mono ?_); (case side1 => exact LibHeld.below HG.out cu); rintro e w23 ⟨rfl, hb⟩; have n0_ := qd.mk (qf cu hb); clear HB; have HB := n0_; clear n0_; (try clear hb); (try clear hb2); (try clear hk); (try clear hi)) | (go_at_call 106; (with_reducible refine (z7.calls k a1 true _ ?side1 A20.out).mono ?_); (case side1 => exact LibHeld.below HG.out cu); rintro e w24 ⟨rfl, hb⟩; have n0_ := qd.mk (qf cu hb); clear HB; have HB := n0_; clear n0_; (try clear hb); (try clear hb2); (try clear hk); (try clear hi)))
     go_ret
     exact ⟨by first | rfl | (simp [qi, qj] <;> rfl) | (simp [*, qi, qj] <;> rfl), by repeat (first | (with_reducible first | exact HB.out | apply qb | apply qa | apply qc) | exact HB.out)⟩
    ·rw [if_neg c22] at H
     have c22b0 : (a1.toList == ([] : List UInt8)) = false := beq_eq_false_iff_ne.mpr c22
     have c22b1 : (a1.toList != ([] : List UInt8)) = true := bne_iff_ne.mpr c22
     replace H := Option.bind_eq_some_iff.mp H
     obtain ⟨t222, A250, H⟩ := H
     replace H : (if t222 = true then (some true) else (if 1 + a1.size ≤ 9223372036854775807 then ((z8.f a0 ((⟨#[46]⟩ : ByteArray) ++ a1)).bind fun t223 => (some t223)) else (none))) = some r := H
     have A25 := qd.mk A250
     clear A250
     by_cases c26 : t222 = true
     ·subst c26
      have H1 : (some true) = some r := by rw [if_pos rfl] at H; exact H
      clear H
      have H := H1
      clear H1
      obtain rfl := Option.some.inj H
      go_enter Tryz.func85, Tryz.ntmps85
      go_wp2_with (first | (go_at_call 107; (with_reducible refine (zf.calls k a0 true _ ?side1 A18.out).mono ?_); (case side1 => exact LibHeld.below HG.out cu); rintro e w27 ⟨rfl, hb⟩; have n0_ := qd.mk (qf cu hb); clear HB; have HB := n0_; clear n0_; (try clear hb); (try clear hb2); (try clear hk); (try clear hi)) | (go_at_call 106; (with_reducible refine (z7.calls k a1 true _ ?side1 A20.out).mono ?_); (case side1 => exact LibHeld.below HG.out cu); rintro e w28 ⟨rfl, hb⟩; have n0_ := qd.mk (qf cu hb); clear HB; have HB := n0_; clear n0_; (try clear hb); (try clear hb2); (try clear hk); (try clear hi)) | (go_at_call 117; (with_reducible refine (zb.calls a0 a1 true _ A25.out).mono ?_); rintro e w29 ⟨rfl, hb⟩; have n0_ := qd.mk (qf cu hb); clear HB; have HB := n0_; clear n0_; (try clear hb); (try clear hb2); (try clear hk); (try clear hi)))
      go_ret
      exact ⟨by first | rfl | (simp [qi, qj] <;> rfl) | (simp [*, qi, qj] <;> rfl), by repeat (first | (with_reducible first | exact HB.out | apply qb | apply qa | apply qc) | exact HB.out)⟩
     ·replace c26 := Bool.eq_false_iff.mpr c26
      subst c26
      have H1 : (if 1 + a1.size ≤ 9223372036854775807 then ((z8.f a0 ((⟨#[46]⟩ : ByteArray) ++ a1)).bind fun t223 => (some t223)) else (none)) = some r := by rw [if_neg (show ¬ (false = true) by decide)] at H; exact H
      clear H
      have H := H1
      clear H1
      by_cases c30 : 1 + a1.size ≤ 9223372036854775807
      ·rw [if_pos c30] at H
       have c30b0 := eq_true c30
       have c30b1 : decide (1 + a1.size ≤ 9223372036854775807) = true := decide_eq_true c30
       try have c30b2 : (9223372036854775807 < 1 + a1.size) = False := eq_false (Nat.not_lt.2 c30)
       replace H := Option.bind_eq_some_iff.mp H
       obtain ⟨t223, A310, H⟩ := H
       replace H : (some t223) = some r := H
       have A31 := qd.mk A310
       clear A310
       obtain rfl := Option.some.inj H
       go_enter Tryz.func85, Tryz.ntmps85
       go_wp2_with (first | (go_at_call 107; (with_reducible refine (zf.calls k a0 true _ ?side1 A18.out).mono ?_); (case side1 => exact LibHeld.below HG.out cu); rintro e w32 ⟨rfl, hb⟩; have n0_ := qd.mk (qf cu hb); clear HB; have HB := n0_; clear n0_; (try clear hb); (try clear hb2); (try clear hk); (try clear hi)) | (go_at_call 106; (with_reducible refine (z7.calls k a1 true _ ?side1 A20.out).mono ?_); (case side1 => exact LibHeld.below HG.out cu); rintro e w33 ⟨rfl, hb⟩; have n0_ := qd.mk (qf cu hb); clear HB; have HB := n0_; clear n0_; (try clear hb); (try clear hb2); (try clear hk); (try clear hi)) | (go_at_call 117; (with_reducible refine (zb.calls a0 a1 false _ A25.out).mono ?_); rintro e w34 ⟨rfl, hb⟩; have n0_ := qd.mk (qf cu hb); clear HB; have HB := n0_; clear n0_; (try clear hb); (try clear hb2); (try clear hk); (try clear hi)) | (go_at_call 119; (with_reducible refine (z8.calls a0 ((⟨#[46]⟩ : ByteArray) ++ a1) t223 _ A31.out).mono ?_); rintro e w35 ⟨rfl, hb⟩; have n0_ := qd.mk (qf cu hb); clear HB; have HB := n0_; clear n0_; (try clear hb); (try clear hb2); (try clear hk); (try clear hi)))
       go_ret
       exact ⟨by first | rfl | (simp [qi, qj] <;> rfl) | (simp [*, qi, qj] <;> rfl), by repeat (first | (with_reducible first | exact HB.out | apply qb | apply qa | apply qc) | exact HB.out)⟩
      ·rw [if_neg c30] at H
       exact absurd H y7
   ·replace c21 := Bool.eq_false_iff.mpr c21
    subst c21
    have H1 : (some false) = some r := by rw [if_neg (show ¬ (false = true) by decide)] at H; exact H
    clear H
    have H := H1
    clear H1
    obtain rfl := Option.some.inj H
    go_enter Tryz.func85, Tryz.ntmps85
    go_wp2_with (first | (go_at_call 107; (with_reducible refine (zf.calls k a0 true _ ?side1 A18.out).mono ?_); (case side1 => exact LibHeld.below HG.out cu); rintro e w36 ⟨rfl, hb⟩; have n0_ := qd.mk (qf cu hb); clear HB; have HB := n0_; clear n0_; (try clear hb); (try clear hb2); (try clear hk); (try clear hi)) | (go_at_call 106; (with_reducible refine (z7.calls k a1 false _ ?side1 A20.out).mono ?_); (case side1 => exact LibHeld.below HG.out cu); rintro e w37 ⟨rfl, hb⟩; have n0_ := qd.mk (qf cu hb); clear HB; have HB := n0_; clear n0_; (try clear hb); (try clear hb2); (try clear hk); (try clear hi)))
    go_ret
    exact ⟨by first | rfl | (simp [qi, qj] <;> rfl) | (simp [*, qi, qj] <;> rfl), by repeat (first | (with_reducible first | exact HB.out | apply qb | apply qa | apply qc) | exact HB.out)⟩
  ·replace c19 := Bool.eq_false_iff.mpr c19
   subst c19
   have H1 : (some false) = some r := by rw [if_neg (show ¬ (false = true) by decide)] at H; exact H
   clear H
   have H := H1
   clear H1
   obtain rfl := Option.some.inj H
   go_enter Tryz.func85, Tryz.ntmps85
   go_wp2_with (first | (go_at_call 107; (with_reducible refine (zf.calls k a0 false _ ?side1 A18.out).mono ?_); (case side1 => exact LibHeld.below HG.out cu); rintro e w38 ⟨rfl, hb⟩; have n0_ := qd.mk (qf cu hb); clear HB; have HB := n0_; clear n0_; (try clear hb); (try clear hb2); (try clear hk); (try clear hi)))
   go_ret
   exact ⟨by first | rfl | (simp [qi, qj] <;> rfl) | (simp [*, qi, qj] <;> rfl), by repeat (first | (with_reducible first | exact HB.out | apply qb | apply qa | apply qc) | exact HB.out)⟩
def z6.f (a0 : ByteArray) : Option (ByteArray × ByteArray) := if 0 ≤ (wrap64 ((a0.size : Int) / 2)) then (if (wrap64 ((a0.size : Int) / 2)) ≤ (a0.size : Int) then (some (a0.extract 0 ((wrap64 ((a0.size : Int) / 2)) : Int).toNat, a0.extract ((wrap64 ((a0.size : Int) / 2)) : Int).toNat a0.size)) else (none)) else (none)
set_option maxHeartbeats 8000000 in
set_option maxRecDepth 100000 in
theorem z6.calls (a0 : ByteArray) (r1 : ByteArray) (r2 : ByteArray) (w : World) (h : z6.f a0 = some (r1, r2)) :
  Calls Tryz.prog 121 #[.string a0] w fun e w' => e = .returned (.tuple #[.string r1, .string r2]) ∧ qy w w' := by
 have H : (if 0 ≤ (wrap64 ((a0.size : Int) / 2)) then (if (wrap64 ((a0.size : Int) / 2)) ≤ (a0.size : Int) then (some (a0.extract 0 ((wrap64 ((a0.size : Int) / 2)) : Int).toNat, a0.extract ((wrap64 ((a0.size : Int) / 2)) : Int).toNat a0.size)) else (none)) else (none)) = some (r1, r2) := h
 clear h
 obtain ⟨ji2, hji2⟩ : ∃ j_ : Int, (wrap64 ((a0.size : Int) / 2)) = j_ := ⟨_, rfl⟩
 replace H : (if 0 ≤ (ji2) then (if (ji2) ≤ (a0.size : Int) then (some (a0.extract 0 ((ji2) : Int).toNat, a0.extract ((ji2) : Int).toNat a0.size)) else (none)) else (none)) = some (r1, r2) := by first | (rw [hji2] at H; exact H) | (simp only [hji2] at H ⊢; exact H)
 have hji2w : (IntKind.i64.wrap ((a0.size : Int) / 2)) = ji2 := (zg _).trans hji2
 by_cases c3 : 0 ≤ (ji2)
 ·rw [if_pos c3] at H
  have c3b0 := eq_true c3
  have c3b1 : decide (0 ≤ (ji2)) = true := decide_eq_true c3
  clear c3
  by_cases c4 : (ji2) ≤ (a0.size : Int)
  ·rw [if_pos c4] at H
   have c4b0 := eq_true c4
   have c4b1 : decide ((ji2) ≤ (a0.size : Int)) = true := decide_eq_true c4
   clear c4
   have c5b0 := eq_true (of_decide_eq_true yc : 0 ≤ (ji2))
   have c6b0 := eq_true (of_decide_eq_true yc : (ji2) ≤ (a0.size : Int))
   simp only [Option.some.injEq, Prod.mk.injEq] at H
   obtain ⟨rfl, rfl⟩ := H
   go_enter Tryz.func121, Tryz.ntmps121
   go_wp2
   repeat (go_quiet (fail); try go_wp2)
   go_ret2
   exact ⟨by first | rfl | (simp; done) | (simp only [← hji2] <;> (first | rfl | simp)) | (simp [*]; done), by repeat (first | exact qy.refl _ | apply qy.step)⟩
  ·rw [if_neg c4] at H
   exact absurd H y7
 ·rw [if_neg c3] at H
  exact absurd H y7
def host_bit.f (a0 : ByteArray) (a1 : Int) : Option (Bool) := if 0 ≤ (wrap64 (Int.tdiv a1 8)) then (if (wrap64 (Int.tdiv a1 8)) < (a0.size : Int) then (if 0 ≤ (IntKind.u64.wrap (7 - (IntKind.u64.wrap (Int.tmod a1 8)))) then (some ((Go.bits .and .u8 (shr .u8 (bt a0 (wrap64 (Int.tdiv a1 8))) (IntKind.u64.wrap (7 - (IntKind.u64.wrap (Int.tmod a1 8))))) 1) == 1)) else (none)) else (none)) else (none)
set_option maxHeartbeats 8000000 in
set_option maxRecDepth 100000 in
theorem host_bit.calls (a0 : ByteArray) (a1 : Int) (r : Bool) (w : World) (h : host_bit.f a0 a1 = some r) :
  Calls Tryz.prog 134 #[.string a0, .int .i64 a1] w fun e w' => e = .returned (.bool r) ∧ qy w w' := by
 have H : (if 0 ≤ (wrap64 (Int.tdiv a1 8)) then (if (wrap64 (Int.tdiv a1 8)) < (a0.size : Int) then (if 0 ≤ (IntKind.u64.wrap (7 - (IntKind.u64.wrap (Int.tmod a1 8)))) then (some ((Go.bits .and .u8 (shr .u8 (bt a0 (wrap64 (Int.tdiv a1 8))) (IntKind.u64.wrap (7 - (IntKind.u64.wrap (Int.tmod a1 8))))) 1) == 1)) else (none)) else (none)) else (none)) = some r := h
 clear h
 obtain ⟨ji3, hji3⟩ : ∃ j_ : Int, (wrap64 (Int.tdiv a1 8)) = j_ := ⟨_, rfl⟩
 replace H : (if 0 ≤ (ji3) then (if (ji3) < (a0.size : Int) then (if 0 ≤ (IntKind.u64.wrap (7 - (IntKind.u64.wrap (Int.tmod a1 8)))) then (some ((Go.bits .and .u8 (shr .u8 (bt a0 (ji3)) (IntKind.u64.wrap (7 - (IntKind.u64.wrap (Int.tmod a1 8))))) 1) == 1)) else (none)) else (none)) else (none)) = some r := by first | (rw [hji3] at H; exact H) | (simp only [hji3] at H ⊢; exact H)
 have hji3w : (IntKind.i64.wrap (Int.tdiv a1 8)) = ji3 := (zg _).trans hji3
 by_cases c4 : 0 ≤ (ji3)
 ·rw [if_pos c4] at H
  have c4b0 : decide (0 ≤ (ji3)) = true := decide_eq_true c4
  clear c4
  by_cases c5 : (ji3) < (a0.size : Int)
  ·rw [if_pos c5] at H
   have c5b0 : decide ((ji3) < (a0.size : Int)) = true := decide_eq_true c5
   clear c5
   obtain ⟨ji7, hji7⟩ : ∃ j_ : Int, (IntKind.u64.wrap (7 - (IntKind.u64.wrap (Int.tmod a1 8)))) = j_ := ⟨_, rfl⟩
   replace H : (if 0 ≤ (ji7) then (some ((Go.bits .and .u8 (shr .u8 (bt a0 (ji3)) (ji7)) 1) == 1)) else (none)) = some r := by first | (rw [hji7] at H; exact H) | (simp only [hji7] at H ⊢; exact H)
   by_cases c8 : 0 ≤ (ji7)
   ·rw [if_pos c8] at H
    have c8b0 := eq_true c8
    have c8b1 : decide (0 ≤ (ji7)) = true := decide_eq_true c8
    clear c8
    obtain ⟨ji9, hji9⟩ : ∃ j_ : Int, (shr .u8 (bt a0 (ji3)) (ji7)) = j_ := ⟨_, rfl⟩
    replace H : (some ((Go.bits .and .u8 (ji9) 1) == 1)) = some r := by first | (rw [hji9] at H; exact H) | (simp only [hji9] at H ⊢; exact H)
    have hji9_ : ((bt a0 (ji3)) / 2 ^ min (ji7).toNat 8) = ji9 := hji9
    have hji9z : (ji7) ≤ 8 → ((bt a0 (ji3)) / 2 ^ (ji7).toNat) = ji9 := shr_small hji9
    obtain rfl := Option.some.inj H
    have p6 : 0 ≤ ((ji3) : Int) := of_decide_eq_true yc
    have q6 : (ji3) < (a0.size : Int) := of_decide_eq_true yc
    have hx6 := bt_at a0 (ji3)
    replace p6 := eq_true p6
    replace q6 := eq_true q6
    go_enter Tryz.func134, Tryz.ntmps134
    go_wp2
    go_ret
    exact ⟨by first | rfl | (simp; done) | (simp only [← hji3, ← hji7, ← hji9] <;> (first | rfl | simp)) | (simp [*]; done), by repeat (first | exact qy.refl _ | apply qy.step)⟩
   ·rw [if_neg c8] at H
    exact absurd H y7
  ·rw [if_neg c5] at H
   exact absurd H y7
 ·rw [if_neg c4] at H
  exact absurd H y7
end Go.Proofs.YtlamfnaoemingaaGreatDoor.C
end
section
namespace Go.Proofs.YtlamfnaoemingaaGreatDoor.C
open Go.RowKit Go.Proofs.YtlamfnaoemingaaGreatDoorW.PrintWords Go.Proofs.YtlamfnaoemingaaGreatDoorW.PrintLast Go.Proofs.YtlamfnaoemingaaGreatDoorW.PrintMore
attribute [local go_sem] zw zx xe xd zn zp zy zz
set_option linter.unusedVariables false
set_option linter.unusedSimpArgs false
mutual
def qr.j0 : Nat → ByteArray → Bool → Option (Bool)
 | 0, _, _ => none
 | k + 1, x0, x15 => if x15 = true then (some false) else ((z6.f x0).bind fun bt224 => (qr.l0 k bt224.1 bt224.2 false 0))
def qr.l0 : Nat → ByteArray → ByteArray → Bool → Int → Option (Bool)
 | 0, _, _, _, _ => none
 | k + 1, x3, x4, x5, x6 => if x6 < (wrap64 (8 * (x4.size : Int))) then ((host_bit.f x4 x6).bind fun t226 => (if t226 = true then (if x5 = true then (qr.j2 k x3 x4 x5 x6 t226 true) else (qr.j2 k x3 x4 x5 x6 t226 false)) else ((host_bit.f x3 x6).bind fun t227 => (qr.j2 k x3 x4 x5 x6 t226 t227)))) else (some true)
def qr.j2 : Nat → ByteArray → ByteArray → Bool → Int → Bool → Bool → Option (Bool)
 | 0, _, _, _, _, _, _ => none
 | k + 1, x3, x4, x5, x6, x7, x43 => if x43 = true then (some false) else (if x5 = true then (qr.l0 k x3 x4 true (wrap64 (x6 + 1))) else (qr.l0 k x3 x4 (!x7) (wrap64 (x6 + 1))))
end
def qr.f (k : Nat) (a0 : ByteArray) : Option (Bool) := if (a0.size : Int) = 8 then (qr.j0 k a0 false) else (qr.j0 k a0 ((a0.size : Int) != 32))
theorem qr.zv : ∀ k, (∀ y0 y1, LeO (qr.j0 k y0 y1) (qr.j0 (k + 1) y0 y1)) ∧ (∀ y0 y1 y2 y3, LeO (qr.l0 k y0 y1 y2 y3) (qr.l0 (k + 1) y0 y1 y2 y3)) ∧ (∀ y0 y1 y2 y3 y4 y5, LeO (qr.j2 k y0 y1 y2 y3 y4 y5) (qr.j2 (k + 1) y0 y1 y2 y3 y4 y5))
 | 0 => ⟨fun _ _ r h => by simp [qr.j0] at h, fun _ _ _ _ r h => by simp [qr.l0] at h, fun _ _ _ _ _ _ r h => by simp [qr.j2] at h⟩
 | k + 1 => by
  obtain ⟨ih0, ih1, ih2⟩ := qr.zv k
  refine ⟨?_, ?_, ?_⟩
  ·intro y0 y1
   unfold qr.j0
   repeat' first
   | (with_reducible exact ih0 _ _)
   | (with_reducible exact ih1 _ _ _ _)
   | (with_reducible exact ih2 _ _ _ _ _ _)
   | (with_reducible exact LeO.refl _)
   | (with_reducible exact LeO.none _)
   | (with_reducible refine LeO.ite ?_ ?_)
   | (with_reducible refine LeO.bind ?_ (fun _ => ?_))
  ·intro y0 y1 y2 y3
   unfold qr.l0
   repeat' first
   | (with_reducible exact ih0 _ _)
   | (with_reducible exact ih1 _ _ _ _)
   | (with_reducible exact ih2 _ _ _ _ _ _)
   | (with_reducible exact LeO.refl _)
   | (with_reducible exact LeO.none _)
   | (with_reducible refine LeO.ite ?_ ?_)
   | (with_reducible refine LeO.bind ?_ (fun _ => ?_))
  ·intro y0 y1 y2 y3 y4 y5
   unfold qr.j2
   repeat' first
   | (with_reducible exact ih0 _ _)
   | (with_reducible exact ih1 _ _ _ _)
   | (with_reducible exact ih2 _ _ _ _ _ _)
   | (with_reducible exact LeO.refl _)
   | (with_reducible exact LeO.none _)
   | (with_reducible refine LeO.ite ?_ ?_)
   | (with_reducible refine LeO.bind ?_ (fun _ => ?_))
theorem qr.mono : ∀ a0 k, LeO (qr.f k a0) (qr.f (k + 1) a0) := by
 intro a0 k
 obtain ⟨ih0, ih1, ih2⟩ := qr.zv k
 unfold qr.f
 repeat' first
   | (with_reducible exact ih0 _ _)
   | (with_reducible exact ih1 _ _ _ _)
   | (with_reducible exact ih2 _ _ _ _ _ _)
   | (with_reducible exact LeO.refl _)
   | (with_reducible exact LeO.none _)
   | (with_reducible refine LeO.ite ?_ ?_)
   | (with_reducible refine LeO.bind ?_ (fun _ => ?_))
set_option maxHeartbeats 8000000 in
set_option maxRecDepth 100000 in
theorem qr.calls (k : Nat) (a0 : ByteArray) (r : Bool) (w : World) (h : qr.f k a0 = some r) :
  Calls Tryz.prog 108 #[.string a0] w fun e w' => e = .returned (.bool r) ∧ qy w w' := by
 have H : (if (a0.size : Int) = 8 then (qr.j0 k a0 false) else (qr.j0 k a0 ((a0.size : Int) != 32))) = some r := h
 clear h
 have HC2 := qd.mk H
 clear H
 go_enter Tryz.func108, Tryz.ntmps108
 go_upto_region 1 with (fail)
 go_cut [15] (fun v15 wc => ∃ (kq : Nat) (x15_1 : Bool), v15 = .bool x15_1 ∧ qd (qr.j0 kq a0 x15_1 = some r) ∧ qd (kq ≤ k) ∧ qy w wc)
 case first =>
  have H := HC2.out
  clear HC2
  by_cases c3 : (a0.size : Int) = 8
  ·rw [if_pos c3] at H
   have c3b0 : ((a0.size : Int) == 8) = true := beq_iff_eq.mpr c3
   have c3b1 : ((a0.size : Int) != 8) = false := bne_eq_false_iff_eq.mpr c3
   clear c3
   (first | rw [c3b0] | (simp only [zg, zi]; rw [c3b0]) | skip)
   have H' := qd.mk H
   clear H
   go_wp2
   go_meet
   case rel => exact ⟨_, (false), yf, H', ⟨by first | omega | exact Nat.le_refl _⟩, by repeat (first | exact qy.refl _ | apply qy.step)⟩
  ·rw [if_neg c3] at H
   have c3b0 : ((a0.size : Int) == 8) = false := beq_eq_false_iff_ne.mpr c3
   have c3b1 : ((a0.size : Int) != 8) = true := bne_iff_ne.mpr c3
   (first | rw [c3b0] | (simp only [zg, zi]; rw [c3b0]) | skip)
   have H' := qd.mk H
   clear H
   go_wp2
   go_meet
   case rel => exact ⟨_, (((a0.size : Int) != 32)), yf, H', ⟨by first | omega | exact Nat.le_refl _⟩, by repeat (first | exact qy.refl _ | apply qy.step)⟩
 case rest =>
  clear HC2
  (try clear c1); (try clear p2); (try clear c3); (try clear c3b0); try clear c3b1
  obtain ⟨kq, x15_1, rfl, HA, HJ1, ⟨mc1, rfl⟩⟩ := hcut
  cases kq with
  | zero => exact absurd HA.out (by simp [qr.j0])
  | succ kj1 =>
   have H := HA.out
   clear HA
   simp only [qr.j0] at H
   by_cases c4 : x15_1 = true
   ·subst c4
    have H1 : (some false) = some r := by rw [if_pos rfl] at H; exact H
    clear H
    have H := H1
    clear H1
    obtain rfl := Option.some.inj H
    go_wp2
    go_ret
    exact ⟨by first | rfl | (simp; done) | (simp [*]; done), by repeat (first | exact qy.refl _ | apply qy.step)⟩
   ·replace c4 := Bool.eq_false_iff.mpr c4
    subst c4
    have H1 : ((z6.f a0).bind fun bt224 => (qr.l0 kj1 bt224.1 bt224.2 false 0)) = some r := by rw [if_neg (show ¬ (false = true) by decide)] at H; exact H
    clear H
    have H := H1
    clear H1
    replace H := Option.bind_eq_some_iff.mp H
    obtain ⟨⟨t224, t225⟩, A50, H⟩ := H
    replace H : (qr.l0 kj1 t224 t225 false 0) = some r := H
    have A5 := qd.mk A50
    clear A50
    have H' := qd.mk H
    clear H
    go_wp2_with (first | ((with_reducible refine qp (f := 121) rfl ?_); refine za (some 18) rfl rfl Tryz.func121 yg rfl #[.string a0] rfl cz ?_; (with_reducible refine (z6.calls a0 t224 t225 _ A5.out).mono ?_); rintro e w' ⟨rfl, ⟨nd, rfl⟩⟩; refine ⟨_, rfl, ?_⟩))
    go_loopg [5, 6] kj1 (fun kq v5 v6 w' => ∃ (x5_2 : Bool) (x6_2 : Int), v5 = .bool x5_2 ∧ v6 = .int .i64 x6_2 ∧ qd (qr.l0 kq t224 t225 x5_2 x6_2 = some r) ∧ qd (kq ≤ kj1) ∧ qy w w')
    case atStart => exact ⟨(false), (0), yf, yf, H', ⟨Nat.le_refl _⟩, by repeat (first | exact qy.refl _ | apply qy.step)⟩
    case round =>
     clear H'
     (try clear c1); (try clear p2); (try clear c3); (try clear c3b0); (try clear c3b1); (try clear c4); try clear p2
     obtain ⟨x5_2, x6_2, rfl, rfl, HA, HK2, ⟨m2, rfl⟩⟩ := hrel
     cases gk with
     | zero => exact absurd HA.out (by simp [qr.l0])
     | succ k2 =>
      have H := HA.out
      clear HA
      simp only [qr.l0] at H
      by_cases c6 : x6_2 < (wrap64 (8 * (t225.size : Int)))
      ·rw [if_pos c6] at H
       have c6b0 : decide (x6_2 < (wrap64 (8 * (t225.size : Int)))) = true := decide_eq_true c6
       clear c6
       replace H := Option.bind_eq_some_iff.mp H
       obtain ⟨t226, A70, H⟩ := H
       replace H : (if t226 = true then (if x5_2 = true then (qr.j2 k2 t224 t225 x5_2 x6_2 t226 true) else (qr.j2 k2 t224 t225 x5_2 x6_2 t226 false)) else ((host_bit.f t224 x6_2).bind fun t227 => (qr.j2 k2 t224 t225 x5_2 x6_2 t226 t227))) = some r := H
       have A7 := qd.mk A70
       clear A70
       have HC8 := qd.mk H
       clear H
       go_upto_region 9 with (first | ((with_reducible refine qp (f := 134) rfl ?_); refine za (some 30) rfl rfl Tryz.func134 yg rfl #[.string t225, .int .i64 x6_2] rfl cz ?_; (with_reducible refine (host_bit.calls t225 x6_2 t226 _ A7.out).mono ?_); rintro e w' ⟨rfl, ⟨nd, rfl⟩⟩; refine ⟨_, rfl, ?_⟩))
       (try simp only [Act.put, List.setIfInBounds_toArray, List.set_cons_zero, List.set_cons_succ])
       go_cut [43] (fun v43 wc => ∃ (kq : Nat) (x43_7 : Bool), v43 = .bool x43_7 ∧ qd (qr.j2 kq t224 t225 x5_2 x6_2 t226 x43_7 = some r) ∧ qd (kq ≤ k2) ∧ qy w wc)
       case first =>
        have H := HC8.out
        clear HC8
        by_cases c9 : t226 = true
        ·subst c9
         have H1 : (if x5_2 = true then (qr.j2 k2 t224 t225 x5_2 x6_2 true true) else (qr.j2 k2 t224 t225 x5_2 x6_2 true false)) = some r := by rw [if_pos rfl] at H; exact H
         clear H
         have H := H1
         clear H1
         by_cases c10 : x5_2 = true
         ·subst c10
          have H1 : (qr.j2 k2 t224 t225 true x6_2 true true) = some r := by rw [if_pos rfl] at H; exact H
          clear H
          have H := H1
          clear H1
          have H' := qd.mk H
          clear H
          go_wp2
          go_meet
          case rel => exact ⟨_, (true), yf, H', ⟨by have := HJ1.out; have := HK2.out; first | omega | exact Nat.le_refl _⟩, by repeat (first | exact qy.refl _ | apply qy.step)⟩
         ·replace c10 := Bool.eq_false_iff.mpr c10
          subst c10
          have H1 : (qr.j2 k2 t224 t225 false x6_2 true false) = some r := by rw [if_neg (show ¬ (false = true) by decide)] at H; exact H
          clear H
          have H := H1
          clear H1
          have H' := qd.mk H
          clear H
          go_wp2
          go_meet
          case rel => exact ⟨_, (false), yf, H', ⟨by have := HJ1.out; have := HK2.out; first | omega | exact Nat.le_refl _⟩, by repeat (first | exact qy.refl _ | apply qy.step)⟩
        ·replace c9 := Bool.eq_false_iff.mpr c9
         subst c9
         have H1 : ((host_bit.f t224 x6_2).bind fun t227 => (qr.j2 k2 t224 t225 x5_2 x6_2 false t227)) = some r := by rw [if_neg (show ¬ (false = true) by decide)] at H; exact H
         clear H
         have H := H1
         clear H1
         replace H := Option.bind_eq_some_iff.mp H
         obtain ⟨t227, A110, H⟩ := H
         replace H : (qr.j2 k2 t224 t225 x5_2 x6_2 false t227) = some r := H
         have A11 := qd.mk A110
         clear A110
         have H' := qd.mk H
         clear H
         go_wp2_with (first | (go_at_call 134; (with_reducible refine (host_bit.calls t224 x6_2 t227 _ A11.out).mono ?_); rintro e w' ⟨rfl, ⟨nd, rfl⟩⟩))
         go_meet
         case rel => exact ⟨_, (t227), yf, H', ⟨by have := HJ1.out; have := HK2.out; first | omega | exact Nat.le_refl _⟩, by repeat (first | exact qy.refl _ | apply qy.step)⟩
       case rest =>
        clear HC8
        (try clear c1); (try clear p2); (try clear c3); (try clear c3b0); (try clear c3b1); (try clear c4); (try clear c6); (try clear c6b0); (try clear p6); (try clear c9); (try clear c10); try clear p2
        obtain ⟨kq, x43_7, rfl, HA, HJ7, ⟨mc7, rfl⟩⟩ := hcut
        cases kq with
        | zero => exact absurd HA.out (by simp [qr.j2])
        | succ kj7 =>
         have H := HA.out
         clear HA
         simp only [qr.j2] at H
         by_cases c12 : x43_7 = true
         ·subst c12
          have H1 : (some false) = some r := by rw [if_pos rfl] at H; exact H
          clear H
          have H := H1
          clear H1
          obtain rfl := Option.some.inj H
          go_wp2
          go_ret
          exact ⟨by first | rfl | (simp; done) | (simp [*]; done), by repeat (first | exact qy.refl _ | apply qy.step)⟩
         ·replace c12 := Bool.eq_false_iff.mpr c12
          subst c12
          have H1 : (if x5_2 = true then (qr.l0 kj7 t224 t225 true (wrap64 (x6_2 + 1))) else (qr.l0 kj7 t224 t225 (!t226) (wrap64 (x6_2 + 1)))) = some r := by rw [if_neg (show ¬ (false = true) by decide)] at H; exact H
          clear H
          have H := H1
          clear H1
          by_cases c13 : x5_2 = true
          ·subst c13
           have H1 : (qr.l0 kj7 t224 t225 true (wrap64 (x6_2 + 1))) = some r := by rw [if_pos rfl] at H; exact H
           clear H
           have H := H1
           clear H1
           have H' := qd.mk H
           clear H
           go_wp2
           go_roundg kj7
           case measure => have := HJ1.out; have := HK2.out; have := HJ7.out; omega
           case rel => exact ⟨(true), (wrap64 (x6_2 + 1)), yf, yf, H', ⟨by have := HJ1.out; have := HK2.out; have := HJ7.out; omega⟩, by repeat (first | exact qy.refl _ | apply qy.step)⟩
          ·replace c13 := Bool.eq_false_iff.mpr c13
           subst c13
           have H1 : (qr.l0 kj7 t224 t225 (!t226) (wrap64 (x6_2 + 1))) = some r := by rw [if_neg (show ¬ (false = true) by decide)] at H; exact H
           clear H
           have H := H1
           clear H1
           have H' := qd.mk H
           clear H
           go_wp2
           go_roundg kj7
           case measure => have := HJ1.out; have := HK2.out; have := HJ7.out; omega
           case rel => exact ⟨(!t226), (wrap64 (x6_2 + 1)), yf, yf, H', ⟨by have := HJ1.out; have := HK2.out; have := HJ7.out; omega⟩, by repeat (first | exact qy.refl _ | apply qy.step)⟩
      ·rw [if_neg c6] at H
       have c6b0 : decide (x6_2 < (wrap64 (8 * (t225.size : Int)))) = false := decide_eq_false c6
       clear c6
       obtain rfl := Option.some.inj H
       go_wp2
       go_ret
       exact ⟨by first | rfl | (simp; done) | (simp [*]; done), by repeat (first | exact qy.refl _ | apply qy.step)⟩
def xn.f (a0 : ByteArray) : Option (Bool) := if (a0.size : Int) = 4 then (some true) else (some ((a0.size : Int) == 16))
set_option maxHeartbeats 8000000 in
set_option maxRecDepth 100000 in
theorem xn.calls (a0 : ByteArray) (r : Bool) (w : World) (h : xn.f a0 = some r) :
  Calls Tryz.prog 109 #[.string a0] w fun e w' => e = .returned (.bool r) ∧ qy w w' := by
 have H : (if (a0.size : Int) = 4 then (some true) else (some ((a0.size : Int) == 16))) = some r := h
 clear h
 by_cases c2 : (a0.size : Int) = 4
 ·rw [if_pos c2] at H
  have c2b0 : ((a0.size : Int) == 4) = true := beq_iff_eq.mpr c2
  have c2b1 : ((a0.size : Int) != 4) = false := bne_eq_false_iff_eq.mpr c2
  clear c2
  obtain rfl := Option.some.inj H
  go_enter Tryz.func109, Tryz.ntmps109
  go_wp2
  go_ret
  exact ⟨by first | rfl | (simp; done) | (simp [*]; done), by repeat (first | exact qy.refl _ | apply qy.step)⟩
 ·rw [if_neg c2] at H
  have c2b0 : ((a0.size : Int) == 4) = false := beq_eq_false_iff_ne.mpr c2
  have c2b1 : ((a0.size : Int) != 4) = true := bne_iff_ne.mpr c2
  obtain rfl := Option.some.inj H
  go_enter Tryz.func109, Tryz.ntmps109
  go_wp2
  go_ret
  exact ⟨by first | rfl | (simp; done) | (simp [*]; done), by repeat (first | exact qy.refl _ | apply qy.step)⟩
end Go.Proofs.YtlamfnaoemingaaGreatDoor.C
end
