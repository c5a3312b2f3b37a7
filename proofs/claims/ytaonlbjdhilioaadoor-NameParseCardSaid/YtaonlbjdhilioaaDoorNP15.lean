/- Words, walks and plain laws that the claim rests on, gathered. -/
import Derived.Below
import Derived.Deep.Draws
import Derived.Deep.AppendLies
import Derived.Maps.AppendAt
import Derived.OwnWalk
import Derived.Laws.BytesArg
import Derived.Laws.MakeOwn
import Derived.Laws.OwnMore
import Derived.Deep.OwnRows
import Derived.Tactics
import Derived.Lib.ConvBytes
import Derived.Laws.Slices
import Derived.WalkKit
import Derived.KernelRfl
import Derived.RowKit3
import Derived.Deep.LoopGhost
import Derived.Deep.QuietTactic
import Derived.BigQuiet
import Derived.WideLaws
import Derived.Deep.DeepCutAuto
import Derived.Deep.CutBlock
import Derived.Deep.RegionHeld3
import Derived.Laws.Rows
import Derived.Lib.AppendStr
import Derived.ArgAppend
import Derived.Laws.IdiomCopy
import Derived.RowKit
import Derived.Test.YtaonlbjdhilioaaDoorProg
import Derived.WalkSpells
import Derived.OrdersHeld
import Derived.Laws.BitsLemmas
import Derived.Laws.StructEq
import Derived.Shelf.Small.Strs
import Derived.Shelf.Small.Wraps
import Derived.Shelf.Utf8.RuneCount
import Derived.Shelf.Strings.Search1
import Derived.Shelf.Strings.Search2
import Derived.Shelf.Strings.Search3
import Derived.Shelf.Strings.Cut
import Derived.Shelf.Strings.Count
import Derived.Shelf.LaysM
import Derived.Shelf.Strings.Shaped
import Derived.Shelf.Strings.Prefix
import Derived.Shelf.Strings.Split
import Derived.Shelf.Strings.SplitShaped
import Derived.Shelf.Unicode.DecodeSlow
import Derived.Shelf.Unicode.DecodeAny
import Derived.Lib.SplitLaws
import Derived.Test.YtaonlbjdhilioaaDoorNP0
import Derived.Test.YtaonlbjdhilioaaDoorNP1
import Derived.Test.YtaonlbjdhilioaaDoorNP2
import Derived.Test.YtaonlbjdhilioaaDoorNP3
import Derived.Test.YtaonlbjdhilioaaDoorNP4
import Derived.Test.YtaonlbjdhilioaaDoorNP5
import Derived.Test.YtaonlbjdhilioaaDoorNP6
import Derived.Test.YtaonlbjdhilioaaDoorNP7
import Derived.Test.YtaonlbjdhilioaaDoorNP8
import Derived.Test.YtaonlbjdhilioaaDoorNP9
import Derived.Test.YtaonlbjdhilioaaDoorNP10
import Derived.Test.YtaonlbjdhilioaaDoorNP11
import Derived.Test.YtaonlbjdhilioaaDoorNP12
import Derived.Test.YtaonlbjdhilioaaDoorNP13
import Derived.Test.YtaonlbjdhilioaaDoorNP14
namespace Go.Proofs.YtaonlbjdhilioaaDoorW.PrintLast
end Go.Proofs.YtaonlbjdhilioaaDoorW.PrintLast
namespace Go.Proofs.YtaonlbjdhilioaaDoorW.PrintMore
end Go.Proofs.YtaonlbjdhilioaaDoorW.PrintMore
namespace Go.Proofs.YtaonlbjdhilioaaDoorW.PrintWords
end Go.Proofs.YtaonlbjdhilioaaDoorW.PrintWords
section
namespace Go.Proofs.YtaonlbjdhilioaaDoor.C
open Go.RowKit Go.Proofs.YtaonlbjdhilioaaDoorW.PrintWords Go.Proofs.YtaonlbjdhilioaaDoorW.PrintLast Go.Proofs.YtaonlbjdhilioaaDoorW.PrintMore
attribute [local go_sem] kf ke kp kr xr xt kg ki
set_option linter.unusedVariables false
set_option linter.unusedSimpArgs false
mutual
def qw.j1 : Nat → ByteArray → ByteArray → Option (Bool)
 | 0, _, _ => none
 | k + 1, x0, x5 => if 4 + x5.size ≤ 9223372036854775807 then ((some (([x0, x5, (⟨#[79, 61, 120, 44]⟩ : ByteArray) ++ x5] : List ByteArray) : List ByteArray)).bind fun y332 => (qw.l1 k y332 (y332.length : Int) 0)) else (none)
def qw.l1 : Nat → List ByteArray → Int → Int → Option (Bool)
 | 0, _, _, _ => none
 | k + 1, x41, x42, x43 => if x43 < x42 then (if 0 ≤ x43 then (if x43 < (x41.length : Int) then ((zm.f k (rdOf ByteArray.empty x41 x43)).bind fun bt337 => ((qi.f k (rdOf ByteArray.empty x41 x43)).bind fun bt342 => ((zc.f k bt337.1 bt342.1).bind fun t347 => (if t347 = true then (if bt337.2 = bt342.2 then (qw.l1 k x41 x42 (wrap64 (x43 + 1))) else (some false)) else (some false))))) else (none)) else (none)) else ((zx.f k).bind fun t335 => (some t335))
def qw.l0 : Nat → ByteArray → List Int → ByteArray → Int → Option (Bool)
 | 0, _, _, _, _ => none
 | k + 1, x0, x1, x5, x6 => if x6 < (x1.length : Int) then (if x6 < 30 then ((some (([(⟨#[67, 78, 61]⟩ : ByteArray), (⟨#[79, 61]⟩ : ByteArray), (⟨#[68, 67, 61]⟩ : ByteArray), (⟨#[69, 61]⟩ : ByteArray), (⟨#[50, 46, 53, 46, 52, 46, 51, 61]⟩ : ByteArray), (⟨#[50, 46, 53, 46, 52, 46, 57, 57, 61]⟩ : ByteArray), (⟨#[49, 46, 52, 48, 61]⟩ : ByteArray), (⟨#[99, 110, 61]⟩ : ByteArray), (⟨#[44]⟩ : ByteArray), (⟨#[44]⟩ : ByteArray), (⟨#[43]⟩ : ByteArray), (⟨#[97]⟩ : ByteArray), (⟨#[65, 110, 110]⟩ : ByteArray), (⟨#[32]⟩ : ByteArray), (⟨#[92, 50, 99]⟩ : ByteArray), (⟨#[92, 50, 67]⟩ : ByteArray), (⟨#[195, 169]⟩ : ByteArray), (⟨#[92, 99, 51, 92, 97, 57]⟩ : ByteArray), (⟨#[61]⟩ : ByteArray), (⟨#[79, 85, 61, 120]⟩ : ByteArray), (⟨#[67, 61, 85, 83]⟩ : ByteArray)] : List ByteArray) : List ByteArray)).bind fun y327 => (if 0 ≤ x6 then (if 0 ≤ (Int.tmod (rd x1 x6) 21) then (if (Int.tmod (rd x1 x6) 21) < (y327.length : Int) then (if x5.size + (rdOf ByteArray.empty y327 (Int.tmod (rd x1 x6) 21)).size ≤ 9223372036854775807 then (qw.l0 k x0 x1 (x5 ++ (rdOf ByteArray.empty y327 (Int.tmod (rd x1 x6) 21))) (wrap64 (x6 + 1))) else (none)) else (none)) else (none)) else (none))) else (qw.j1 k x0 x5)) else (qw.j1 k x0 x5)
end
def qw.f (k : Nat) (a0 : ByteArray) (l1 : List Int) : Option (Bool) := if (a0.size : Int) > 200 then ((zx.f k).bind fun t326 => (some t326)) else (qw.l0 k a0 l1 (⟨#[]⟩ : ByteArray) 0)
theorem qw.xf : ∀ k, (∀ y0 y1, LeO (qw.j1 k y0 y1) (qw.j1 (k + 1) y0 y1)) ∧ (∀ y0 y1 y2, LeO (qw.l1 k y0 y1 y2) (qw.l1 (k + 1) y0 y1 y2)) ∧ (∀ y0 y1 y2 y3, LeO (qw.l0 k y0 y1 y2 y3) (qw.l0 (k + 1) y0 y1 y2 y3))
 | 0 => ⟨fun _ _ r h => by simp [qw.j1] at h, fun _ _ _ r h => by simp [qw.l1] at h, fun _ _ _ _ r h => by simp [qw.l0] at h⟩
 | k + 1 => by
  obtain ⟨ih0, ih1, ih2⟩ := qw.xf k
  refine ⟨?_, ?_, ?_⟩
  ·intro y0 y1
   unfold qw.j1
   repeat' first
   | (with_reducible exact ih0 _ _)
   | (with_reducible exact ih1 _ _ _)
   | (with_reducible exact ih2 _ _ _ _)
   | (with_reducible exact zx.mono _)
   | (with_reducible exact zc.mono _ _ _)
   | (with_reducible exact qi.mono _ _)
   | (with_reducible exact zm.mono _ _)
   | (with_reducible exact LeO.refl _)
   | (with_reducible exact LeO.none _)
   | (with_reducible refine LeO.ite ?_ ?_)
   | (with_reducible refine LeO.bind ?_ (fun _ => ?_))
  ·intro y0 y1 y2
   unfold qw.l1
   repeat' first
   | (with_reducible exact ih0 _ _)
   | (with_reducible exact ih1 _ _ _)
   | (with_reducible exact ih2 _ _ _ _)
   | (with_reducible exact zx.mono _)
   | (with_reducible exact zc.mono _ _ _)
   | (with_reducible exact qi.mono _ _)
   | (with_reducible exact zm.mono _ _)
   | (with_reducible exact LeO.refl _)
   | (with_reducible exact LeO.none _)
   | (with_reducible refine LeO.ite ?_ ?_)
   | (with_reducible refine LeO.bind ?_ (fun _ => ?_))
  ·intro y0 y1 y2 y3
   unfold qw.l0
   repeat' first
   | (with_reducible exact ih0 _ _)
   | (with_reducible exact ih1 _ _ _)
   | (with_reducible exact ih2 _ _ _ _)
   | (with_reducible exact zx.mono _)
   | (with_reducible exact zc.mono _ _ _)
   | (with_reducible exact qi.mono _ _)
   | (with_reducible exact zm.mono _ _)
   | (with_reducible exact LeO.refl _)
   | (with_reducible exact LeO.none _)
   | (with_reducible refine LeO.ite ?_ ?_)
   | (with_reducible refine LeO.bind ?_ (fun _ => ?_))
theorem qw.mono : ∀ a0 a1 k, LeO (qw.f k a0 a1) (qw.f (k + 1) a0 a1) := by
 intro a0 a1 k
 obtain ⟨ih0, ih1, ih2⟩ := qw.xf k
 unfold qw.f
 repeat' first
   | (with_reducible exact ih0 _ _)
   | (with_reducible exact ih1 _ _ _)
   | (with_reducible exact ih2 _ _ _ _)
   | (with_reducible exact zx.mono _)
   | (with_reducible exact zc.mono _ _ _)
   | (with_reducible exact qi.mono _ _)
   | (with_reducible exact zm.mono _ _)
   | (with_reducible exact LeO.refl _)
   | (with_reducible exact LeO.none _)
   | (with_reducible refine LeO.ite ?_ ?_)
   | (with_reducible refine LeO.bind ?_ (fun _ => ?_))
set_option maxHeartbeats 8000000 in
set_option maxRecDepth 100000 in
theorem qw.calls (k : Nat) (a0 : ByteArray) (A1 : Option Addr) (c1 : Nat) (l1 : List Int) (r : Bool) (w : World) (hG : LibHeld w) (hr1 : Kd.C (Kd.int .u8) w A1 l1.length l1) (hc1 : l1.length ≤ c1) (h : qw.f k a0 l1 = some r) :
  Calls Tryd.prog 6 #[.string a0, .slice A1 l1.length c1] w fun e w' => e = .returned (.bool r) ∧ Below w.heap.size w w' := by
 have hu24 := Tryd.underlying24
 have HG := qb.mk hG
 clear hG
 have HR1 := qb.mk hr1
 have HC1 := qb.mk hc1
 clear hr1 hc1
 have HB := qb.mk (Below.refl w.heap.size w)
 have H : (if (a0.size : Int) > 200 then ((zx.f k).bind fun t326 => (some t326)) else (qw.l0 k a0 l1 (⟨#[]⟩ : ByteArray) 0)) = some r := h
 clear h
 by_cases c3 : (a0.size : Int) > 200
 ·rw [if_pos c3] at H
  have c3b0 : decide (200 < (a0.size : Int)) = true := decide_eq_true c3
  have c3b1 : decide (200 < a0.size) = true := decide_eq_true (by omega)
  clear c3
  replace H := Option.bind_eq_some_iff.mp H
  obtain ⟨t326, A40, H⟩ := H
  replace H : (some t326) = some r := H
  have A4 := qb.mk A40
  clear A40
  obtain rfl := Option.some.inj H
  go_enter Tryd.func6, Tryd.ntmps6
  go_wp2_with (first | ((with_reducible refine zt (f := 12) rfl ?_); refine xq (some 16) rfl rfl Tryd.func12 (by kernel_rfl) rfl #[] rfl (by (try simp only [List.map_toArray, List.map_cons, List.map_nil]); first | done | rfl | (simp only [List.length_drop, List.length_take]; rfl)) ?_; (with_reducible refine (zx.calls k  t326 _ ?side1 A4.out).mono ?_); (case side1 => exact LibHeld.below HG.out (by repeat (first | (with_reducible first | exact HB.out | apply qc | apply qa | apply qd) | exact HB.out))); rintro e w5 ⟨rfl, hb⟩; refine ⟨_, rfl, ?_⟩; have n0_ := qb.mk (qu (by repeat (first | (with_reducible first | exact HB.out | apply qc | apply qa | apply qd) | exact HB.out)) hb); clear HB; have HB := n0_; clear n0_; (try clear hb); (try clear hb2); (try clear hk); (try clear hi)))
  go_ret
  exact ⟨by first | rfl | (simp [qy, qx] <;> rfl) | (simp [*, qy, qx] <;> rfl), by repeat (first | (with_reducible first | exact HB.out | apply qc | apply qa | apply qd) | exact HB.out)⟩
 ·rw [if_neg c3] at H
  have c3b0 : decide (200 < (a0.size : Int)) = false := decide_eq_false c3
  have c3b1 : decide (200 < a0.size) = false := decide_eq_false (by omega)
  clear c3
  have HC6 := qb.mk H
  clear H
  go_enter Tryd.func6, Tryd.ntmps6
  go_upto_block 0 with (fail)
  go_cut [5] (fun v5 wc => ∃ (kq : Nat) (x5_5 : ByteArray), v5 = .string x5_5 ∧ qb (qw.j1 kq a0 x5_5 = some r) ∧ qb (kq ≤ k) ∧ qb (Below w.heap.size w wc))
  case first =>
   have H := HC6.out
   clear HC6
   have H' := qb.mk H
   clear H
   go_wp2
   go_loopg [5, 6] k (fun kq v5 v6 w' => ∃ (x5_1 : ByteArray) (x6_1 : Int), v5 = .string x5_1 ∧ v6 = .int .i64 x6_1 ∧ qb (qw.l0 kq a0 l1 x5_1 x6_1 = some r) ∧ qb (kq ≤ k) ∧ qb (Below w.heap.size w w'))
   case atStart => exact ⟨((⟨#[]⟩ : ByteArray)), (0), (by first | rfl | (simp; done) | (simp [*]; done)), (by first | rfl | (simp; done) | (simp [*]; done)), H', ⟨Nat.le_refl _⟩, ⟨by repeat (first | (with_reducible first | exact HB.out | apply qc | apply qa | apply qd) | exact HB.out)⟩⟩
   case round =>
    clear H'
    (try clear c1); (try clear p2); (try clear c3); (try clear c3b0); (try clear c3b1); try clear c6
    obtain ⟨x5_1, x6_1, rfl, rfl, HA, HK1, HB⟩ := hrel
    cases gk with
    | zero => exact absurd HA.out (by simp [qw.l0])
    | succ k1 =>
     have H := HA.out
     clear HA
     simp only [qw.l0] at H
     by_cases c7 : x6_1 < (l1.length : Int)
     ·rw [if_pos c7] at H
      have c7b0 : decide (x6_1 < (l1.length : Int)) = true := decide_eq_true c7
      clear c7
      (first | rw [c7b0] | (simp only [xl, xu]; rw [c7b0]) | skip)
      by_cases c8 : x6_1 < 30
      ·rw [if_pos c8] at H
       have c8b0 : decide (x6_1 < 30) = true := decide_eq_true c8
       clear c8
       obtain ⟨y327, hy327⟩ : ∃ y_ : List ByteArray, y_ = (([(⟨#[67, 78, 61]⟩ : ByteArray), (⟨#[79, 61]⟩ : ByteArray), (⟨#[68, 67, 61]⟩ : ByteArray), (⟨#[69, 61]⟩ : ByteArray), (⟨#[50, 46, 53, 46, 52, 46, 51, 61]⟩ : ByteArray), (⟨#[50, 46, 53, 46, 52, 46, 57, 57, 61]⟩ : ByteArray), (⟨#[49, 46, 52, 48, 61]⟩ : ByteArray), (⟨#[99, 110, 61]⟩ : ByteArray), (⟨#[44]⟩ : ByteArray), (⟨#[44]⟩ : ByteArray), (⟨#[43]⟩ : ByteArray), (⟨#[97]⟩ : ByteArray), (⟨#[65, 110, 110]⟩ : ByteArray), (⟨#[32]⟩ : ByteArray), (⟨#[92, 50, 99]⟩ : ByteArray), (⟨#[92, 50, 67]⟩ : ByteArray), (⟨#[195, 169]⟩ : ByteArray), (⟨#[92, 99, 51, 92, 97, 57]⟩ : ByteArray), (⟨#[61]⟩ : ByteArray), (⟨#[79, 85, 61, 120]⟩ : ByteArray), (⟨#[67, 61, 85, 83]⟩ : ByteArray)] : List ByteArray)) := ⟨_, rfl⟩
       replace H : (if 0 ≤ x6_1 then (if 0 ≤ (Int.tmod (rd l1 x6_1) 21) then (if (Int.tmod (rd l1 x6_1) 21) < (y327.length : Int) then (if x5_1.size + (rdOf ByteArray.empty y327 (Int.tmod (rd l1 x6_1) 21)).size ≤ 9223372036854775807 then (qw.l0 k1 a0 l1 (x5_1 ++ (rdOf ByteArray.empty y327 (Int.tmod (rd l1 x6_1) 21))) (wrap64 (x6_1 + 1))) else (none)) else (none)) else (none)) else (none)) = some r := by first | (rw [hy327]; with_reducible exact H) | (have H2_ := (Option.bind_some _ _).symm.trans H; rw [hy327]; with_reducible exact H2_) | (have H2_ := (Option.bind_some _ _).symm.trans H; with_reducible exact H2_) | with_reducible exact H | (rw [hy327]; exact H) | exact H
       have Ny327 := qb.mk hy327
       clear hy327
       by_cases c9 : 0 ≤ x6_1
       ·rw [if_pos c9] at H
        have c9b0 : decide (0 ≤ x6_1) = true := decide_eq_true c9
        clear c9
        obtain ⟨ji10, hji10⟩ : ∃ j_ : Int, (Int.tmod (rd l1 x6_1) 21) = j_ := ⟨_, rfl⟩
        replace H : (if 0 ≤ (ji10) then (if (ji10) < (y327.length : Int) then (if x5_1.size + (rdOf ByteArray.empty y327 (ji10)).size ≤ 9223372036854775807 then (qw.l0 k1 a0 l1 (x5_1 ++ (rdOf ByteArray.empty y327 (ji10))) (wrap64 (x6_1 + 1))) else (none)) else (none)) else (none)) = some r := by first | (rw [hji10] at H; exact H) | (simp only [hji10] at H ⊢; exact H)
        by_cases c11 : 0 ≤ (ji10)
        ·rw [if_pos c11] at H
         have c11b0 : decide (0 ≤ (ji10)) = true := decide_eq_true c11
         clear c11
         by_cases c12 : (ji10) < (y327.length : Int)
         ·rw [if_pos c12] at H
          have c12b0 : decide ((ji10) < (y327.length : Int)) = true := decide_eq_true c12
          clear c12
          by_cases c13 : x5_1.size + (rdOf ByteArray.empty y327 (ji10)).size ≤ 9223372036854775807
          ·rw [if_pos c13] at H
           have c13b0 := eq_true c13
           have c13b1 : decide (x5_1.size + (rdOf ByteArray.empty y327 (ji10)).size ≤ 9223372036854775807) = true := decide_eq_true c13
           try have c13b2 : (9223372036854775807 < x5_1.size + (rdOf ByteArray.empty y327 (ji10)).size) = False := eq_false (Nat.not_lt.2 c13)
           have H' := qb.mk H
           clear H
           go_wp2_with (first | ((with_reducible refine zw (N := 28) rfl ?_); refine Kd.R_lit Kd.string _ 9 ?hg (N := 28) ?hd (xs := ([(⟨#[67, 78, 61]⟩ : ByteArray), (⟨#[79, 61]⟩ : ByteArray), (⟨#[68, 67, 61]⟩ : ByteArray), (⟨#[69, 61]⟩ : ByteArray), (⟨#[50, 46, 53, 46, 52, 46, 51, 61]⟩ : ByteArray), (⟨#[50, 46, 53, 46, 52, 46, 57, 57, 61]⟩ : ByteArray), (⟨#[49, 46, 52, 48, 61]⟩ : ByteArray), (⟨#[99, 110, 61]⟩ : ByteArray), (⟨#[44]⟩ : ByteArray), (⟨#[44]⟩ : ByteArray), (⟨#[43]⟩ : ByteArray), (⟨#[97]⟩ : ByteArray), (⟨#[65, 110, 110]⟩ : ByteArray), (⟨#[32]⟩ : ByteArray), (⟨#[92, 50, 99]⟩ : ByteArray), (⟨#[92, 50, 67]⟩ : ByteArray), (⟨#[195, 169]⟩ : ByteArray), (⟨#[92, 99, 51, 92, 97, 57]⟩ : ByteArray), (⟨#[61]⟩ : ByteArray), (⟨#[79, 85, 61, 120]⟩ : ByteArray), (⟨#[67, 61, 85, 83]⟩ : ByteArray)] : List ByteArray)) (inner := [.string (⟨#[67, 78, 61]⟩ : ByteArray), .string (⟨#[79, 61]⟩ : ByteArray), .string (⟨#[68, 67, 61]⟩ : ByteArray), .string (⟨#[69, 61]⟩ : ByteArray), .string (⟨#[50, 46, 53, 46, 52, 46, 51, 61]⟩ : ByteArray), .string (⟨#[50, 46, 53, 46, 52, 46, 57, 57, 61]⟩ : ByteArray), .string (⟨#[49, 46, 52, 48, 61]⟩ : ByteArray), .string (⟨#[99, 110, 61]⟩ : ByteArray), .string (⟨#[44]⟩ : ByteArray), .string (⟨#[44]⟩ : ByteArray), .string (⟨#[43]⟩ : ByteArray), .string (⟨#[97]⟩ : ByteArray), .string (⟨#[65, 110, 110]⟩ : ByteArray), .string (⟨#[32]⟩ : ByteArray), .string (⟨#[92, 50, 99]⟩ : ByteArray), .string (⟨#[92, 50, 67]⟩ : ByteArray), .string (⟨#[195, 169]⟩ : ByteArray), .string (⟨#[92, 99, 51, 92, 97, 57]⟩ : ByteArray), .string (⟨#[61]⟩ : ByteArray), .string (⟨#[79, 85, 61, 120]⟩ : ByteArray), .string (⟨#[67, 61, 85, 83]⟩ : ByteArray)]) (ok := fun _ => True) (okp := fun _ => True) ?hr ?hp (fun _ hk => hk) trivial (Below.refl _ _) (Nat.le_refl _) (by simp) ?_; (case hd => rfl); (case hg => rfl); (case hr => first | (go_simp; done) | (go_simp; rfl)); (case hp => exact (Reps.one (show Kd.M Kd.string _ _ _ (⟨#[67, 78, 61]⟩ : ByteArray) [.string (⟨#[67, 78, 61]⟩ : ByteArray)] from rfl) (Reps.one (show Kd.M Kd.string _ _ _ (⟨#[79, 61]⟩ : ByteArray) [.string (⟨#[79, 61]⟩ : ByteArray)] from rfl) (Reps.one (show Kd.M Kd.string _ _ _ (⟨#[68, 67, 61]⟩ : ByteArray) [.string (⟨#[68, 67, 61]⟩ : ByteArray)] from rfl) (Reps.one (show Kd.M Kd.string _ _ _ (⟨#[69, 61]⟩ : ByteArray) [.string (⟨#[69, 61]⟩ : ByteArray)] from rfl) (Reps.one (show Kd.M Kd.string _ _ _ (⟨#[50, 46, 53, 46, 52, 46, 51, 61]⟩ : ByteArray) [.string (⟨#[50, 46, 53, 46, 52, 46, 51, 61]⟩ : ByteArray)] from rfl) (Reps.one (show Kd.M Kd.string _ _ _ (⟨#[50, 46, 53, 46, 52, 46, 57, 57, 61]⟩ : ByteArray) [.string (⟨#[50, 46, 53, 46, 52, 46, 57, 57, 61]⟩ : ByteArray)] from rfl) (Reps.one (show Kd.M Kd.string _ _ _ (⟨#[49, 46, 52, 48, 61]⟩ : ByteArray) [.string (⟨#[49, 46, 52, 48, 61]⟩ : ByteArray)] from rfl) (Reps.one (show Kd.M Kd.string _ _ _ (⟨#[99, 110, 61]⟩ : ByteArray) [.string (⟨#[99, 110, 61]⟩ : ByteArray)] from rfl) (Reps.one (show Kd.M Kd.string _ _ _ (⟨#[44]⟩ : ByteArray) [.string (⟨#[44]⟩ : ByteArray)] from rfl) (Reps.one (show Kd.M Kd.string _ _ _ (⟨#[44]⟩ : ByteArray) [.string (⟨#[44]⟩ : ByteArray)] from rfl) (Reps.one (show Kd.M Kd.string _ _ _ (⟨#[43]⟩ : ByteArray) [.string (⟨#[43]⟩ : ByteArray)] from rfl) (Reps.one (show Kd.M Kd.string _ _ _ (⟨#[97]⟩ : ByteArray) [.string (⟨#[97]⟩ : ByteArray)] from rfl) (Reps.one (show Kd.M Kd.string _ _ _ (⟨#[65, 110, 110]⟩ : ByteArray) [.string (⟨#[65, 110, 110]⟩ : ByteArray)] from rfl) (Reps.one (show Kd.M Kd.string _ _ _ (⟨#[32]⟩ : ByteArray) [.string (⟨#[32]⟩ : ByteArray)] from rfl) (Reps.one (show Kd.M Kd.string _ _ _ (⟨#[92, 50, 99]⟩ : ByteArray) [.string (⟨#[92, 50, 99]⟩ : ByteArray)] from rfl) (Reps.one (show Kd.M Kd.string _ _ _ (⟨#[92, 50, 67]⟩ : ByteArray) [.string (⟨#[92, 50, 67]⟩ : ByteArray)] from rfl) (Reps.one (show Kd.M Kd.string _ _ _ (⟨#[195, 169]⟩ : ByteArray) [.string (⟨#[195, 169]⟩ : ByteArray)] from rfl) (Reps.one (show Kd.M Kd.string _ _ _ (⟨#[92, 99, 51, 92, 97, 57]⟩ : ByteArray) [.string (⟨#[92, 99, 51, 92, 97, 57]⟩ : ByteArray)] from rfl) (Reps.one (show Kd.M Kd.string _ _ _ (⟨#[61]⟩ : ByteArray) [.string (⟨#[61]⟩ : ByteArray)] from rfl) (Reps.one (show Kd.M Kd.string _ _ _ (⟨#[79, 85, 61, 120]⟩ : ByteArray) [.string (⟨#[79, 85, 61, 120]⟩ : ByteArray)] from rfl) (Reps.one (show Kd.M Kd.string _ _ _ (⟨#[67, 61, 85, 83]⟩ : ByteArray) [.string (⟨#[67, 61, 85, 83]⟩ : ByteArray)] from rfl) (Reps.none _ _))))))))))))))))))))))); intro v328 w14 ho15 hb hg_ hnew_; clear hg_ hnew_; (first | rw [← Ny327.out] at ho15 | (simp only [Int.reduceToNat] at ho15; rw [← Ny327.out] at ho15)); have n0_ := qb.mk (Kd.k5 ho15 (qm (by repeat (first | (with_reducible first | exact HB.out | apply qc | apply qa | apply qd) | exact HB.out)))); have n1_ := qb.mk (qu (by repeat (first | (with_reducible first | exact HB.out | apply qc | apply qa | apply qd) | exact HB.out)) hb); clear HB; have HO329 := n0_; have HB := n1_; clear n0_ n1_; clear hb ho15; have p330 : 0 ≤ (x6_1 : Int) := of_decide_eq_true (by first | (with_reducible assumption) | assumption); have q330 : x6_1 < (l1.length : Int) := of_decide_eq_true (by first | (with_reducible assumption) | assumption); obtain ⟨ad330, e330, hx330_0⟩ := Kd.at_int HR1.out x6_1 p330 q330; cases e330; replace hx330_0 := (HB.out.cell (World.block_lt_of_cell? w _ hx330_0)).trans hx330_0; replace p330 := eq_true p330; replace q330 := eq_true q330; obtain ⟨Ao16, co16, eo16⟩ := Kd.ku HO329.out; subst eo16; have p331 : 0 ≤ ((ji10) : Int) := of_decide_eq_true (by first | (with_reducible assumption) | assumption); have q331 : (ji10) < (y327.length : Int) := of_decide_eq_true (by first | (with_reducible assumption) | assumption); obtain ⟨ad331, e331, hx331_0⟩ := Kd.jc (Kd.kn HO329.out).2.2 (ji10) p331 q331; cases e331; replace p331 := eq_true p331; replace q331 := eq_true q331))
           go_roundg k1
           case measure => have := HK1.out; omega
           case rel => exact ⟨(x5_1 ++ (rdOf ByteArray.empty y327 (ji10))), (wrap64 (x6_1 + 1)), (by first | rfl | (simp; done) | (simp only [← hji10] <;> (first | rfl | simp)) | (simp [*]; done)), (by first | rfl | (simp; done) | (simp [*]; done)), H', ⟨by have := HK1.out; omega⟩, ⟨by repeat (first | (with_reducible first | exact HB.out | apply qc | apply qa | apply qd) | exact HB.out)⟩⟩
          ·rw [if_neg c13] at H
           exact absurd H (by simp)
         ·rw [if_neg c12] at H
          exact absurd H (by simp)
        ·rw [if_neg c11] at H
         exact absurd H (by simp)
       ·rw [if_neg c9] at H
        exact absurd H (by simp)
      ·rw [if_neg c8] at H
       have c8b0 : decide (x6_1 < 30) = false := decide_eq_false c8
       clear c8
       have H' := qb.mk H
       clear H
       go_wp2
       go_meet
       case rel => exact ⟨_, (x5_1), (by first | rfl | (simp; done) | (simp [*]; done)), H', ⟨by have := HK1.out; first | omega | exact Nat.le_refl _⟩, ⟨by repeat (first | (with_reducible first | exact HB.out | apply qc | apply qa | apply qd) | exact HB.out)⟩⟩
     ·rw [if_neg c7] at H
      have c7b0 : decide (x6_1 < (l1.length : Int)) = false := decide_eq_false c7
      clear c7
      (first | rw [c7b0] | (simp only [xl, xu]; rw [c7b0]) | skip)
      have H' := qb.mk H
      clear H
      go_wp2
      go_meet
      case rel => exact ⟨_, (x5_1), (by first | rfl | (simp; done) | (simp [*]; done)), H', ⟨by have := HK1.out; first | omega | exact Nat.le_refl _⟩, ⟨by repeat (first | (with_reducible first | exact HB.out | apply qc | apply qa | apply qd) | exact HB.out)⟩⟩
  case rest =>
   clear HC6
   (try clear c1); (try clear p2); (try clear c3); (try clear c3b0); (try clear c3b1); (try clear p3); (try clear q3); (try clear hx3); (try clear c6); (try clear p6); (try clear c7); try clear c7b0
   (try clear c8); (try clear c8b0); (try clear c9); (try clear c9b0); (try clear c11); (try clear c11b0); (try clear c12); (try clear c12b0); (try clear c13); (try clear c13b0); (try clear c13b1); try clear c13b2
   (try clear hx330_0); (try clear hx331_0); (try clear p2); (try clear p330); (try clear p331); (try clear q330); try clear q331
   obtain ⟨kq, x5_5, rfl, HA, HJ5, HB⟩ := hcut
   cases kq with
   | zero => exact absurd HA.out (by simp [qw.j1])
   | succ kj5 =>
    have H := HA.out
    clear HA
    simp only [qw.j1] at H
    by_cases c17 : 4 + x5_5.size ≤ 9223372036854775807
    ·rw [if_pos c17] at H
     have c17b0 := eq_true c17
     have c17b1 : decide (4 + x5_5.size ≤ 9223372036854775807) = true := decide_eq_true c17
     try have c17b2 : (9223372036854775807 < 4 + x5_5.size) = False := eq_false (Nat.not_lt.2 c17)
     obtain ⟨y332, hy332⟩ : ∃ y_ : List ByteArray, y_ = (([a0, x5_5, (⟨#[79, 61, 120, 44]⟩ : ByteArray) ++ x5_5] : List ByteArray)) := ⟨_, rfl⟩
     replace H : (qw.l1 kj5 y332 (y332.length : Int) 0) = some r := by first | (rw [hy332]; with_reducible exact H) | (have H2_ := (Option.bind_some _ _).symm.trans H; rw [hy332]; with_reducible exact H2_) | (have H2_ := (Option.bind_some _ _).symm.trans H; with_reducible exact H2_) | with_reducible exact H | (rw [hy332]; exact H) | exact H
     have Ny332 := qb.mk hy332
     clear hy332
     have H' := qb.mk H
     clear H
     go_wp2_with (first | ((with_reducible refine zw (N := 41) rfl ?_); refine Kd.R_lit Kd.string _ 9 ?hg (N := 41) ?hd (xs := ([a0, x5_5, (⟨#[79, 61, 120, 44]⟩ : ByteArray) ++ x5_5] : List ByteArray)) (inner := [.string a0, .string x5_5, .string ((⟨#[79, 61, 120, 44]⟩ : ByteArray) ++ x5_5)]) (ok := fun _ => True) (okp := fun _ => True) ?hr ?hp (fun _ hk => hk) trivial (Below.refl _ _) (Nat.le_refl _) (by simp) ?_; (case hd => rfl); (case hg => rfl); (case hr => first | (go_simp; done) | (go_simp; rfl)); (case hp => exact (Reps.one (show Kd.M Kd.string _ _ _ a0 [.string a0] from rfl) (Reps.one (show Kd.M Kd.string _ _ _ x5_5 [.string x5_5] from rfl) (Reps.one (show Kd.M Kd.string _ _ _ ((⟨#[79, 61, 120, 44]⟩ : ByteArray) ++ x5_5) [.string ((⟨#[79, 61, 120, 44]⟩ : ByteArray) ++ x5_5)] from rfl) (Reps.none _ _))))); intro v333 w18 ho19 hb hg_ hnew_; clear hg_ hnew_; (first | rw [← Ny332.out] at ho19 | (simp only [Int.reduceToNat] at ho19; rw [← Ny332.out] at ho19)); have n0_ := qb.mk (Kd.k5 ho19 (qm (by repeat (first | (with_reducible first | exact HB.out | apply qc | apply qa | apply qd) | exact HB.out)))); have n1_ := qb.mk (qu (by repeat (first | (with_reducible first | exact HB.out | apply qc | apply qa | apply qd) | exact HB.out)) hb); clear HB; have HO334 := n0_; have HB := n1_; clear n0_ n1_; clear hb ho19; obtain ⟨Ao20, co20, eo20⟩ := Kd.ku HO334.out; subst eo20))
     go_loopg [43] kj5 (fun kq v43 w' => ∃ (x43_2 : Int), v43 = .int .i64 x43_2 ∧ qb (qw.l1 kq y332 (y332.length : Int) x43_2 = some r) ∧ qb (kq ≤ kj5) ∧ qb (Kd.R Kd.string 9 w' w.heap.size (fun _ => True) (.slice Ao20 y332.length co20) y332) ∧ qb (Below w.heap.size w w'))
     case atStart => exact ⟨(0), (by first | rfl | (simp; done) | (simp [*]; done)), H', ⟨Nat.le_refl _⟩, ⟨by (with_reducible repeat (first | apply Kd.qt | apply Kd.qr | apply Kd.q8)); exact HO334.out⟩, ⟨by repeat (first | (with_reducible first | exact HB.out | apply qc | apply qa | apply qd) | exact HB.out)⟩⟩
     case round =>
      clear H'
      (try clear c1); (try clear p2); (try clear c3); (try clear c3b0); (try clear c3b1); (try clear p3); (try clear q3); (try clear hx3); (try clear c6); (try clear p6); (try clear c7); try clear c7b0
      (try clear c8); (try clear c8b0); (try clear c9); (try clear c9b0); (try clear c11); (try clear c11b0); (try clear c12); (try clear c12b0); (try clear c13); (try clear c13b0); try clear c13b1
      (try clear c13b2); (try clear c17); (try clear c17b0); (try clear c17b1); (try clear c17b2); (try clear hx330_0); (try clear hx331_0); (try clear p2); (try clear p3); (try clear p330); try clear p331
      (try clear p6); (try clear q3); (try clear q330); try clear q331
      obtain ⟨x43_2, rfl, HA, HK2, HO_41, HB⟩ := hrel
      cases gk with
      | zero => exact absurd HA.out (by simp [qw.l1])
      | succ k2 =>
       have H := HA.out
       clear HA
       simp only [qw.l1] at H
       by_cases c21 : x43_2 < (y332.length : Int)
       ·rw [if_pos c21] at H
        have c21b0 : decide (x43_2 < (y332.length : Int)) = true := decide_eq_true c21
        clear c21
        by_cases c22 : 0 ≤ x43_2
        ·rw [if_pos c22] at H
         have c22b0 : decide (0 ≤ x43_2) = true := decide_eq_true c22
         clear c22
         by_cases c23 : x43_2 < (y332.length : Int)
         ·rw [if_pos c23] at H
          have c23b0 : decide (x43_2 < (y332.length : Int)) = true := decide_eq_true c23
          clear c23
          replace H := Option.bind_eq_some_iff.mp H
          obtain ⟨⟨t337, t340⟩, A240, H⟩ := H
          replace H : ((qi.f k2 (rdOf ByteArray.empty y332 x43_2)).bind fun bt342 => ((zc.f k2 t337 bt342.1).bind fun t347 => (if t347 = true then (if t340 = bt342.2 then (qw.l1 k2 y332 (y332.length : Int) (wrap64 (x43_2 + 1))) else (some false)) else (some false)))) = some r := H
          have A24 := qb.mk A240
          clear A240
          replace H := Option.bind_eq_some_iff.mp H
          obtain ⟨⟨t342, t345⟩, A250, H⟩ := H
          replace H : ((zc.f k2 t337 t342).bind fun t347 => (if t347 = true then (if t340 = t345 then (qw.l1 k2 y332 (y332.length : Int) (wrap64 (x43_2 + 1))) else (some false)) else (some false))) = some r := H
          have A25 := qb.mk A250
          clear A250
          replace H := Option.bind_eq_some_iff.mp H
          obtain ⟨t347, A260, H⟩ := H
          replace H : (if t347 = true then (if t340 = t345 then (qw.l1 k2 y332 (y332.length : Int) (wrap64 (x43_2 + 1))) else (some false)) else (some false)) = some r := H
          have A26 := qb.mk A260
          clear A260
          by_cases c27 : t347 = true
          ·subst c27
           have H1 : (if t340 = t345 then (qw.l1 k2 y332 (y332.length : Int) (wrap64 (x43_2 + 1))) else (some false)) = some r := by rw [if_pos rfl] at H; exact H
           clear H
           have H := H1
           clear H1
           by_cases c28 : t340 = t345
           ·rw [if_pos c28] at H
            have c28b0 : (t340 == t345) = true := beq_iff_eq.mpr c28
            have c28b1 : (t340 != t345) = false := bne_eq_false_iff_eq.mpr c28
            clear c28
            have H' := qb.mk H
            clear H
            have p336 : 0 ≤ (x43_2 : Int) := of_decide_eq_true (by first | (with_reducible assumption) | assumption)
            have q336 : x43_2 < (y332.length : Int) := of_decide_eq_true (by first | (with_reducible assumption) | assumption)
            obtain ⟨ad336, e336, hx336_0⟩ := Kd.jc (Kd.kn HO_41.out).2.2 x43_2 p336 q336
            cases e336
            replace p336 := eq_true p336
            replace q336 := eq_true q336
            go_wp2_with (first | ((with_reducible refine zt (f := 22) rfl ?_); refine xq (some 49) rfl rfl Tryd.func22 (by kernel_rfl) rfl #[.string (rdOf ByteArray.empty y332 x43_2)] rfl (by (try simp only [List.map_toArray, List.map_cons, List.map_nil]); first | done | rfl | (simp only [List.length_drop, List.length_take]; rfl)) ?_; (with_reducible refine (zm.calls k2 (rdOf ByteArray.empty y332 x43_2) t337 t340 _ ?side1 A24.out).mono ?_); (case side1 => exact LibHeld.below HG.out (by repeat (first | (with_reducible first | exact HB.out | apply qc | apply qa | apply qd) | exact HB.out))); rintro e w29 ⟨v338, rfl, ho0, hb⟩; refine ⟨_, rfl, ?_⟩; have n0_ := qb.mk (Kd.zz (by (with_reducible repeat (first | apply Kd.qt | apply Kd.qr | apply Kd.q8)); exact HO_41.out) hb); have n1_ := qb.mk (Kd.S_lower ho0 (qm (by repeat (first | (with_reducible first | exact HB.out | apply qc | apply qa | apply qd) | exact HB.out)))); have n2_ := qb.mk (qu (by repeat (first | (with_reducible first | exact HB.out | apply qc | apply qa | apply qd) | exact HB.out)) hb); clear HO_41; clear HB; have HO_41 := n0_; have HO339 := n1_; have HB := n2_; clear n0_ n1_ n2_; (try clear hb); (try clear hb2); (try clear hk); (try clear hi); (try clear ho0)) | ((with_reducible refine zw (N := 9) rfl ?_); refine zq ?hg (N := 9) ?hd (cs := #[.slice none 0 0]) (t := 24) ?hr ?_; (case hd => rfl); (case hg => rfl); (case hr => first | (go_simp; done) | (go_simp; rfl)); intro gb341 hg w30 hbox hb; have n0_ := qb.mk (Kd.zz (by (with_reducible repeat (first | apply Kd.qt | apply Kd.qr | apply Kd.q8)); exact HO_41.out) hb); have n1_ := qb.mk (Kd.xb (by (with_reducible repeat (first | apply Kd.zo | apply Kd.zn | apply Kd.zu)); exact HO339.out) hb); have n2_ := qb.mk (qu (by repeat (first | (with_reducible first | exact HB.out | apply qc | apply qa | apply qd) | exact HB.out)) hb); have n3_ := qb.mk (hbox); have n4_ := qb.mk ((by rw [hg]; exact (qm (by repeat (first | (with_reducible first | exact HB.out | apply qc | apply qa | apply qd) | exact HB.out))) : w.heap.size ≤ gb341)); have n5_ := qb.mk ((by rw [hg]; exact (qm (by repeat (first | (with_reducible first | exact HB.out | apply qc | apply qa | apply qd) | exact HB.out))) : w.heap.size ≤ gb341)); clear HO_41; clear HO339; clear HB; have HO_41 := n0_; have HO339 := n1_; have HB := n2_; have BK341 := n3_; have GW341 := n4_; have GE341 := n5_; clear n0_ n1_ n2_ n3_ n4_ n5_; clear hb hbox hg; obtain ⟨Ao31, co31, eo31⟩ := Kd.k0 HO339.out; subst eo31; have hcz32_0 : w30.cell? ⟨gb341, 0, none⟩ = some (.slice none 0 0) := (qq BK341.out 0).trans rfl; have hfz32_0 := ql BK341.out 0) | ((with_reducible refine zt (f := 23) rfl ?_); refine xq (some 54) rfl rfl Tryd.func23 (by kernel_rfl) rfl #[.string (rdOf ByteArray.empty y332 x43_2)] rfl (by (try simp only [List.map_toArray, List.map_cons, List.map_nil]); first | done | rfl | (simp only [List.length_drop, List.length_take]; rfl)) ?_; (with_reducible refine (qi.calls k2 (rdOf ByteArray.empty y332 x43_2) t342 t345 _ A25.out).mono ?_); rintro e w33 ⟨v343, rfl, ho0, hb⟩; refine ⟨_, rfl, ?_⟩; have n0_ := qb.mk (Kd.zz (by (with_reducible repeat (first | apply Kd.qt | apply Kd.qr | apply Kd.q8)); exact (Kd.zr (Kd.xa (p := ⟨gb341, 0, none⟩) (Kd.ka HO_41.out BK341.out (by decide)) (fun _ hk => hk.2) (.slice Ao31 t337.length co31)) (fun _ h_ => h_.1))) hb); have n1_ := qb.mk (Kd.S_elder' (by (with_reducible repeat (first | apply Kd.zo | apply Kd.zn | apply Kd.zu)); exact (Kd.xd (Kd.kk (p := ⟨gb341, 0, none⟩) (Kd.kc HO339.out BK341.out (by decide)) (fun _ hk => hk.2) (.slice Ao31 t337.length co31)) (fun _ h_ => h_.1))) (Kd.S_base ho0) hb); have n2_ := qb.mk (Kd.S_lower (Kd.S_new' ho0 (Kd.S_lt (by (with_reducible repeat (first | apply Kd.zo | apply Kd.zn | apply Kd.zu)); exact (Kd.xd (Kd.kk (p := ⟨gb341, 0, none⟩) (Kd.kc HO339.out BK341.out (by decide)) (fun _ hk => hk.2) (.slice Ao31 t337.length co31)) (fun _ h_ => h_.1))))) (qm (by repeat (first | (with_reducible first | exact HB.out | apply qc | apply qa | apply qd | refine qg ?_ GE341.out) | exact HB.out)))); have n3_ := qb.mk (zd (g := gb341) (o := .cells #[.slice Ao31 t337.length co31] 24 (0, 0)) (by (with_reducible repeat (first | refine qe ?_ _ | refine qh ?_ | refine qf ?_ _)); refine zv (cs := #[.slice none 0 0]) ?_ 0 _ rfl; (with_reducible repeat (first | refine qe ?_ _ | refine qh ?_ | refine qf ?_ _)); exact BK341.out) hb); have n4_ := qb.mk (qu (by repeat (first | (with_reducible first | exact HB.out | apply qc | apply qa | apply qd | refine qg ?_ GE341.out) | exact HB.out)) hb); clear HO_41; clear HO339; clear BK341; clear HB; have HO_41 := n0_; have HO339 := n1_; have HO344 := n2_; have BK341 := n3_; have HB := n4_; clear n0_ n1_ n2_ n3_ n4_; (try clear hb); (try clear hb2); (try clear hk); (try clear hi); (try clear ho0)) | ((with_reducible refine zw (N := 11) rfl ?_); refine zq ?hg (N := 11) ?hd (cs := #[.slice none 0 0]) (t := 24) ?hr ?_; (case hd => rfl); (case hg => rfl); (case hr => first | (go_simp; done) | (go_simp; rfl)); intro gb346 hg w34 hbox hb; have n0_ := qb.mk (Kd.zz (by (with_reducible repeat (first | apply Kd.qt | apply Kd.qr | apply Kd.q8)); exact HO_41.out) hb); have n1_ := qb.mk (Kd.xb (by (with_reducible repeat (first | apply Kd.zo | apply Kd.zn | apply Kd.zu)); exact HO339.out) hb); have n2_ := qb.mk (Kd.xb (by (with_reducible repeat (first | apply Kd.zo | apply Kd.zn | apply Kd.zu)); exact HO344.out) hb); have n3_ := qb.mk (zd (g := gb341) (o := .cells #[.slice Ao31 t337.length co31] 24 (0, 0)) (by (with_reducible repeat (first | refine qe ?_ _ | refine qh ?_ | refine qf ?_ _)); exact BK341.out) hb); have n4_ := qb.mk (qu (by repeat (first | (with_reducible first | exact HB.out | apply qc | apply qa | apply qd | refine qg ?_ GE341.out) | exact HB.out)) hb); have n5_ := qb.mk (hbox); have n6_ := qb.mk ((by rw [hg]; exact (qm (by repeat (first | (with_reducible first | exact HB.out | apply qc | apply qa | apply qd | refine qg ?_ GE341.out) | exact HB.out))) : w.heap.size ≤ gb346)); have n7_ := qb.mk ((by rw [hg]; exact (qm (by repeat (first | (with_reducible first | exact HB.out | apply qc | apply qa | apply qd | refine qg ?_ GE341.out) | exact HB.out))) : w.heap.size ≤ gb346)); have n8_ := qb.mk ((by rw [hg]; exact Nat.ne_of_lt (z7 (g := gb341) (o := .cells #[.slice Ao31 t337.length co31] 24 (0, 0)) (by (with_reducible repeat (first | refine qe ?_ _ | refine qh ?_ | refine qf ?_ _)); exact BK341.out)) : gb341 ≠ gb346)); have n9_ := qb.mk ((by rw [hg]; exact Nat.ne_of_gt (z7 (g := gb341) (o := .cells #[.slice Ao31 t337.length co31] 24 (0, 0)) (by (with_reducible repeat (first | refine qe ?_ _ | refine qh ?_ | refine qf ?_ _)); exact BK341.out)) : gb346 ≠ gb341)); clear HO_41; clear HO339; clear HO344; clear BK341; clear HB; have HO_41 := n0_; have HO339 := n1_; have HO344 := n2_; have BK341 := n3_; have HB := n4_; have BK346 := n5_; have GW346 := n6_; have GE346 := n7_; have NB341_346 := n8_; have NB346_341 := n9_; clear n0_ n1_ n2_ n3_ n4_ n5_ n6_ n7_ n8_ n9_; clear hb hbox hg; obtain ⟨Ao35, co35, eo35⟩ := Kd.k0 HO344.out; subst eo35; have hnb36 := NB346_341.out; have hnc36 := NB341_346.out; have hcz37_0 : w34.cell? ⟨gb346, 0, none⟩ = some (.slice none 0 0) := (qq BK346.out 0).trans rfl; have hfz37_0 := ql BK346.out 0; have hcz38_0 : w34.cell? ⟨gb341, 0, none⟩ = some (.slice Ao31 t337.length co31) := (qq BK341.out 0).trans rfl; have hfz38_0 := ql BK341.out 0) | ((with_reducible refine zt (f := 24) rfl ?_); refine xq (some 59) rfl rfl Tryd.func24 (by kernel_rfl) rfl #[.agg #[.slice Ao31 t337.length co31], .agg #[.slice Ao35 t342.length co35]] rfl (by (try simp only [List.map_toArray, List.map_cons, List.map_nil]); first | done | rfl | (simp only [List.length_drop, List.length_take]; rfl)) ?_; (with_reducible refine (zc.calls k2 _ _ t337 _ _ t342 true _ ?side1 ?side2 ?side3 ?side4 A26.out).mono ?_); (case side1 => refine (Kd.xv (e := 27) (base := w.heap.size) (ok := fun k_ => (True ∧ some k_ ≠ (.slice Ao35 t342.length co35 : Value).ownBlock)) (n := t337.length) (c := co31) ?_).2.2; exact (by (with_reducible repeat (first | apply Kd.zo | apply Kd.zn | apply Kd.zu)); exact (Kd.xd (Kd.kk (p := ⟨gb346, 0, none⟩) (Kd.kc HO339.out BK346.out (by decide)) (fun _ hk => hk.2) (.slice Ao35 t342.length co35)) (fun _ h_ => h_.1)))); (case side2 => exact (Kd.xv HO339.out).2.1); (case side3 => refine (Kd.xv (e := 27) (base := w.heap.size) (ok := fun k_ => (True ∧ some k_ ≠ (.slice Ao31 t337.length co31 : Value).ownBlock)) (n := t342.length) (c := co35) ?_).2.2; exact (by (with_reducible repeat (first | apply Kd.zo | apply Kd.zn | apply Kd.zu)); exact (Kd.xd (Kd.kk (p := ⟨gb346, 0, none⟩) (Kd.kc HO344.out BK346.out (by decide)) (fun _ hk => hk.2) (.slice Ao35 t342.length co35)) (fun _ h_ => h_.1)))); (case side4 => exact (Kd.xv HO344.out).2.1); rintro e w39 ⟨rfl, hb⟩; refine ⟨_, rfl, ?_⟩; have n0_ := qb.mk (Kd.zz (by (with_reducible repeat (first | apply Kd.qt | apply Kd.qr | apply Kd.q8)); exact (Kd.zr (Kd.xa (p := ⟨gb346, 0, none⟩) (Kd.ka HO_41.out BK346.out (by decide)) (fun _ hk => hk.2) (.slice Ao35 t342.length co35)) (fun _ h_ => h_.1))) hb); have n1_ := qb.mk (Kd.xb (by (with_reducible repeat (first | apply Kd.zo | apply Kd.zn | apply Kd.zu)); exact (Kd.xd (Kd.kk (p := ⟨gb346, 0, none⟩) (Kd.kc HO339.out BK346.out (by decide)) (fun _ hk => hk.2) (.slice Ao35 t342.length co35)) (fun _ h_ => h_.1))) hb); have n2_ := qb.mk (Kd.xb (by (with_reducible repeat (first | apply Kd.zo | apply Kd.zn | apply Kd.zu)); exact (Kd.xd (Kd.kk (p := ⟨gb346, 0, none⟩) (Kd.kc HO344.out BK346.out (by decide)) (fun _ hk => hk.2) (.slice Ao35 t342.length co35)) (fun _ h_ => h_.1))) hb); have n3_ := qb.mk (zd (g := gb341) (o := .cells #[.slice Ao31 t337.length co31] 24 (0, 0)) (by (with_reducible repeat (first | refine qe ?_ _ | refine qh ?_ | refine qf ?_ _)); refine z6 ?_ NB341_346.out _; (with_reducible repeat (first | refine qe ?_ _ | refine qh ?_ | refine qf ?_ _)); exact BK341.out) hb); have n4_ := qb.mk (zd (g := gb346) (o := .cells #[.slice Ao35 t342.length co35] 24 (0, 0)) (by (with_reducible repeat (first | refine qe ?_ _ | refine qh ?_ | refine qf ?_ _)); refine zv (cs := #[.slice none 0 0]) ?_ 0 _ rfl; (with_reducible repeat (first | refine qe ?_ _ | refine qh ?_ | refine qf ?_ _)); exact BK346.out) hb); have n5_ := qb.mk (qu (by repeat (first | (with_reducible first | exact HB.out | apply qc | apply qa | apply qd | refine qg ?_ GE341.out | refine qg ?_ GE346.out) | exact HB.out)) hb); clear HO_41; clear HO339; clear HO344; clear BK341; clear BK346; clear HB; have HO_41 := n0_; have HO339 := n1_; have HO344 := n2_; have BK341 := n3_; have BK346 := n4_; have HB := n5_; clear n0_ n1_ n2_ n3_ n4_ n5_; (try clear hb); (try clear hb2); (try clear hk); (try clear hi)))
            go_roundg k2
            case measure => have := HJ5.out; have := HK2.out; omega
            case rel => exact ⟨(wrap64 (x43_2 + 1)), (by first | rfl | (simp; done) | (simp [*]; done)), H', ⟨by have := HJ5.out; have := HK2.out; omega⟩, ⟨by (with_reducible repeat (first | apply Kd.qt | apply Kd.qr | apply Kd.q8)); exact HO_41.out⟩, ⟨by repeat (first | (with_reducible first | exact HB.out | apply qc | apply qa | apply qd | refine qg ?_ GE341.out | refine qg ?_ GE346.out) | exact HB.out)⟩⟩
           ·rw [if_neg c28] at H
            have c28b0 : (t340 == t345) = false := beq_eq_false_iff_ne.mpr c28
            have c28b1 : (t340 != t345) = true := bne_iff_ne.mpr c28
            obtain rfl := Option.some.inj H
            have p336 : 0 ≤ (x43_2 : Int) := of_decide_eq_true (by first | (with_reducible assumption) | assumption)
            have q336 : x43_2 < (y332.length : Int) := of_decide_eq_true (by first | (with_reducible assumption) | assumption)
            obtain ⟨ad336, e336, hx336_0⟩ := Kd.jc (Kd.kn HO_41.out).2.2 x43_2 p336 q336
            cases e336
            replace p336 := eq_true p336
            replace q336 := eq_true q336
            go_wp2_with (first | ((with_reducible refine zt (f := 22) rfl ?_); refine xq (some 49) rfl rfl Tryd.func22 (by kernel_rfl) rfl #[.string (rdOf ByteArray.empty y332 x43_2)] rfl (by (try simp only [List.map_toArray, List.map_cons, List.map_nil]); first | done | rfl | (simp only [List.length_drop, List.length_take]; rfl)) ?_; (with_reducible refine (zm.calls k2 (rdOf ByteArray.empty y332 x43_2) t337 t340 _ ?side1 A24.out).mono ?_); (case side1 => exact LibHeld.below HG.out (by repeat (first | (with_reducible first | exact HB.out | apply qc | apply qa | apply qd) | exact HB.out))); rintro e w40 ⟨v338, rfl, ho0, hb⟩; refine ⟨_, rfl, ?_⟩; have n0_ := qb.mk (Kd.zz (by (with_reducible repeat (first | apply Kd.qt | apply Kd.qr | apply Kd.q8)); exact HO_41.out) hb); have n1_ := qb.mk (Kd.S_lower ho0 (qm (by repeat (first | (with_reducible first | exact HB.out | apply qc | apply qa | apply qd) | exact HB.out)))); have n2_ := qb.mk (qu (by repeat (first | (with_reducible first | exact HB.out | apply qc | apply qa | apply qd) | exact HB.out)) hb); clear HO_41; clear HB; have HO_41 := n0_; have HO339 := n1_; have HB := n2_; clear n0_ n1_ n2_; (try clear hb); (try clear hb2); (try clear hk); (try clear hi); (try clear ho0)) | ((with_reducible refine zw (N := 9) rfl ?_); refine zq ?hg (N := 9) ?hd (cs := #[.slice none 0 0]) (t := 24) ?hr ?_; (case hd => rfl); (case hg => rfl); (case hr => first | (go_simp; done) | (go_simp; rfl)); intro gb341 hg w41 hbox hb; have n0_ := qb.mk (Kd.zz (by (with_reducible repeat (first | apply Kd.qt | apply Kd.qr | apply Kd.q8)); exact HO_41.out) hb); have n1_ := qb.mk (Kd.xb (by (with_reducible repeat (first | apply Kd.zo | apply Kd.zn | apply Kd.zu)); exact HO339.out) hb); have n2_ := qb.mk (qu (by repeat (first | (with_reducible first | exact HB.out | apply qc | apply qa | apply qd) | exact HB.out)) hb); have n3_ := qb.mk (hbox); have n4_ := qb.mk ((by rw [hg]; exact (qm (by repeat (first | (with_reducible first | exact HB.out | apply qc | apply qa | apply qd) | exact HB.out))) : w.heap.size ≤ gb341)); have n5_ := qb.mk ((by rw [hg]; exact (qm (by repeat (first | (with_reducible first | exact HB.out | apply qc | apply qa | apply qd) | exact HB.out))) : w.heap.size ≤ gb341)); clear HO_41; clear HO339; clear HB; have HO_41 := n0_; have HO339 := n1_; have HB := n2_; have BK341 := n3_; have GW341 := n4_; have GE341 := n5_; clear n0_ n1_ n2_ n3_ n4_ n5_; clear hb hbox hg; obtain ⟨Ao42, co42, eo42⟩ := Kd.k0 HO339.out; subst eo42; have hcz43_0 : w41.cell? ⟨gb341, 0, none⟩ = some (.slice none 0 0) := (qq BK341.out 0).trans rfl; have hfz43_0 := ql BK341.out 0) | ((with_reducible refine zt (f := 23) rfl ?_); refine xq (some 54) rfl rfl Tryd.func23 (by kernel_rfl) rfl #[.string (rdOf ByteArray.empty y332 x43_2)] rfl (by (try simp only [List.map_toArray, List.map_cons, List.map_nil]); first | done | rfl | (simp only [List.length_drop, List.length_take]; rfl)) ?_; (with_reducible refine (qi.calls k2 (rdOf ByteArray.empty y332 x43_2) t342 t345 _ A25.out).mono ?_); rintro e w44 ⟨v343, rfl, ho0, hb⟩; refine ⟨_, rfl, ?_⟩; have n0_ := qb.mk (Kd.zz (by (with_reducible repeat (first | apply Kd.qt | apply Kd.qr | apply Kd.q8)); exact (Kd.zr (Kd.xa (p := ⟨gb341, 0, none⟩) (Kd.ka HO_41.out BK341.out (by decide)) (fun _ hk => hk.2) (.slice Ao42 t337.length co42)) (fun _ h_ => h_.1))) hb); have n1_ := qb.mk (Kd.S_elder' (by (with_reducible repeat (first | apply Kd.zo | apply Kd.zn | apply Kd.zu)); exact (Kd.xd (Kd.kk (p := ⟨gb341, 0, none⟩) (Kd.kc HO339.out BK341.out (by decide)) (fun _ hk => hk.2) (.slice Ao42 t337.length co42)) (fun _ h_ => h_.1))) (Kd.S_base ho0) hb); have n2_ := qb.mk (Kd.S_lower (Kd.S_new' ho0 (Kd.S_lt (by (with_reducible repeat (first | apply Kd.zo | apply Kd.zn | apply Kd.zu)); exact (Kd.xd (Kd.kk (p := ⟨gb341, 0, none⟩) (Kd.kc HO339.out BK341.out (by decide)) (fun _ hk => hk.2) (.slice Ao42 t337.length co42)) (fun _ h_ => h_.1))))) (qm (by repeat (first | (with_reducible first | exact HB.out | apply qc | apply qa | apply qd | refine qg ?_ GE341.out) | exact HB.out)))); have n3_ := qb.mk (zd (g := gb341) (o := .cells #[.slice Ao42 t337.length co42] 24 (0, 0)) (by (with_reducible repeat (first | refine qe ?_ _ | refine qh ?_ | refine qf ?_ _)); refine zv (cs := #[.slice none 0 0]) ?_ 0 _ rfl; (with_reducible repeat (first | refine qe ?_ _ | refine qh ?_ | refine qf ?_ _)); exact BK341.out) hb); have n4_ := qb.mk (qu (by repeat (first | (with_reducible first | exact HB.out | apply qc | apply qa | apply qd | refine qg ?_ GE341.out) | exact HB.out)) hb); clear HO_41; clear HO339; clear BK341; clear HB; have HO_41 := n0_; have HO339 := n1_; have HO344 := n2_; have BK341 := n3_; have HB := n4_; clear n0_ n1_ n2_ n3_ n4_; (try clear hb); (try clear hb2); (try clear hk); (try clear hi); (try clear ho0)) | ((with_reducible refine zw (N := 11) rfl ?_); refine zq ?hg (N := 11) ?hd (cs := #[.slice none 0 0]) (t := 24) ?hr ?_; (case hd => rfl); (case hg => rfl); (case hr => first | (go_simp; done) | (go_simp; rfl)); intro gb346 hg w45 hbox hb; have n0_ := qb.mk (Kd.zz (by (with_reducible repeat (first | apply Kd.qt | apply Kd.qr | apply Kd.q8)); exact HO_41.out) hb); have n1_ := qb.mk (Kd.xb (by (with_reducible repeat (first | apply Kd.zo | apply Kd.zn | apply Kd.zu)); exact HO339.out) hb); have n2_ := qb.mk (Kd.xb (by (with_reducible repeat (first | apply Kd.zo | apply Kd.zn | apply Kd.zu)); exact HO344.out) hb); have n3_ := qb.mk (zd (g := gb341) (o := .cells #[.slice Ao42 t337.length co42] 24 (0, 0)) (by (with_reducible repeat (first | refine qe ?_ _ | refine qh ?_ | refine qf ?_ _)); exact BK341.out) hb); have n4_ := qb.mk (qu (by repeat (first | (with_reducible first | exact HB.out | apply qc | apply qa | apply qd | refine qg ?_ GE341.out) | exact HB.out)) hb); have n5_ := qb.mk (hbox); have n6_ := qb.mk ((by rw [hg]; exact (qm (by repeat (first | (with_reducible first | exact HB.out | apply qc | apply qa | apply qd | refine qg ?_ GE341.out) | exact HB.out))) : w.heap.size ≤ gb346)); have n7_ := qb.mk ((by rw [hg]; exact (qm (by repeat (first | (with_reducible first | exact HB.out | apply qc | apply qa | apply qd | refine qg ?_ GE341.out) | exact HB.out))) : w.heap.size ≤ gb346)); have n8_ := qb.mk ((by rw [hg]; exact Nat.ne_of_lt (z7 (g := gb341) (o := .cells #[.slice Ao42 t337.length co42] 24 (0, 0)) (by (with_reducible repeat (first | refine qe ?_ _ | refine qh ?_ | refine qf ?_ _)); exact BK341.out)) : gb341 ≠ gb346)); have n9_ := qb.mk ((by rw [hg]; exact Nat.ne_of_gt (z7 (g := gb341) (o := .cells #[.slice Ao42 t337.length co42] 24 (0, 0)) (by (with_reducible repeat (first | refine qe ?_ _ | refine qh ?_ | refine qf ?_ _)); exact BK341.out)) : gb346 ≠ gb341)); clear HO_41; clear HO339; clear HO344; clear BK341; clear HB; have HO_41 := n0_; have HO339 := n1_; have HO344 := n2_; have BK341 := n3_; have HB := n4_; have BK346 := n5_; have GW346 := n6_; have GE346 := n7_; have NB341_346 := n8_; have NB346_341 := n9_; clear n0_ n1_ n2_ n3_ n4_ n5_ n6_ n7_ n8_ n9_; clear hb hbox hg; obtain ⟨Ao46, co46, eo46⟩ := Kd.k0 HO344.out; subst eo46; have hnb47 := NB346_341.out; have hnc47 := NB341_346.out; have hcz48_0 : w45.cell? ⟨gb346, 0, none⟩ = some (.slice none 0 0) := (qq BK346.out 0).trans rfl; have hfz48_0 := ql BK346.out 0; have hcz49_0 : w45.cell? ⟨gb341, 0, none⟩ = some (.slice Ao42 t337.length co42) := (qq BK341.out 0).trans rfl; have hfz49_0 := ql BK341.out 0) | ((with_reducible refine zt (f := 24) rfl ?_); refine xq (some 59) rfl rfl Tryd.func24 (by kernel_rfl) rfl #[.agg #[.slice Ao42 t337.length co42], .agg #[.slice Ao46 t342.length co46]] rfl (by (try simp only [List.map_toArray, List.map_cons, List.map_nil]); first | done | rfl | (simp only [List.length_drop, List.length_take]; rfl)) ?_; (with_reducible refine (zc.calls k2 _ _ t337 _ _ t342 true _ ?side1 ?side2 ?side3 ?side4 A26.out).mono ?_); (case side1 => refine (Kd.xv (e := 27) (base := w.heap.size) (ok := fun k_ => (True ∧ some k_ ≠ (.slice Ao46 t342.length co46 : Value).ownBlock)) (n := t337.length) (c := co42) ?_).2.2; exact (by (with_reducible repeat (first | apply Kd.zo | apply Kd.zn | apply Kd.zu)); exact (Kd.xd (Kd.kk (p := ⟨gb346, 0, none⟩) (Kd.kc HO339.out BK346.out (by decide)) (fun _ hk => hk.2) (.slice Ao46 t342.length co46)) (fun _ h_ => h_.1)))); (case side2 => exact (Kd.xv HO339.out).2.1); (case side3 => refine (Kd.xv (e := 27) (base := w.heap.size) (ok := fun k_ => (True ∧ some k_ ≠ (.slice Ao42 t337.length co42 : Value).ownBlock)) (n := t342.length) (c := co46) ?_).2.2; exact (by (with_reducible repeat (first | apply Kd.zo | apply Kd.zn | apply Kd.zu)); exact (Kd.xd (Kd.kk (p := ⟨gb346, 0, none⟩) (Kd.kc HO344.out BK346.out (by decide)) (fun _ hk => hk.2) (.slice Ao46 t342.length co46)) (fun _ h_ => h_.1)))); (case side4 => exact (Kd.xv HO344.out).2.1); rintro e w50 ⟨rfl, hb⟩; refine ⟨_, rfl, ?_⟩; have n0_ := qb.mk (Kd.zz (by (with_reducible repeat (first | apply Kd.qt | apply Kd.qr | apply Kd.q8)); exact (Kd.zr (Kd.xa (p := ⟨gb346, 0, none⟩) (Kd.ka HO_41.out BK346.out (by decide)) (fun _ hk => hk.2) (.slice Ao46 t342.length co46)) (fun _ h_ => h_.1))) hb); have n1_ := qb.mk (Kd.xb (by (with_reducible repeat (first | apply Kd.zo | apply Kd.zn | apply Kd.zu)); exact (Kd.xd (Kd.kk (p := ⟨gb346, 0, none⟩) (Kd.kc HO339.out BK346.out (by decide)) (fun _ hk => hk.2) (.slice Ao46 t342.length co46)) (fun _ h_ => h_.1))) hb); have n2_ := qb.mk (Kd.xb (by (with_reducible repeat (first | apply Kd.zo | apply Kd.zn | apply Kd.zu)); exact (Kd.xd (Kd.kk (p := ⟨gb346, 0, none⟩) (Kd.kc HO344.out BK346.out (by decide)) (fun _ hk => hk.2) (.slice Ao46 t342.length co46)) (fun _ h_ => h_.1))) hb); have n3_ := qb.mk (zd (g := gb341) (o := .cells #[.slice Ao42 t337.length co42] 24 (0, 0)) (by (with_reducible repeat (first | refine qe ?_ _ | refine qh ?_ | refine qf ?_ _)); refine z6 ?_ NB341_346.out _; (with_reducible repeat (first | refine qe ?_ _ | refine qh ?_ | refine qf ?_ _)); exact BK341.out) hb); have n4_ := qb.mk (zd (g := gb346) (o := .cells #[.slice Ao46 t342.length co46] 24 (0, 0)) (by (with_reducible repeat (first | refine qe ?_ _ | refine qh ?_ | refine qf ?_ _)); refine zv (cs := #[.slice none 0 0]) ?_ 0 _ rfl; (with_reducible repeat (first | refine qe ?_ _ | refine qh ?_ | refine qf ?_ _)); exact BK346.out) hb); have n5_ := qb.mk (qu (by repeat (first | (with_reducible first | exact HB.out | apply qc | apply qa | apply qd | refine qg ?_ GE341.out | refine qg ?_ GE346.out) | exact HB.out)) hb); clear HO_41; clear HO339; clear HO344; clear BK341; clear BK346; clear HB; have HO_41 := n0_; have HO339 := n1_; have HO344 := n2_; have BK341 := n3_; have BK346 := n4_; have HB := n5_; clear n0_ n1_ n2_ n3_ n4_ n5_; (try clear hb); (try clear hb2); (try clear hk); (try clear hi)))
            go_ret
            exact ⟨by first | rfl | (simp [qy, qx] <;> rfl) | (simp [*, qy, qx] <;> rfl), by repeat (first | (with_reducible first | exact HB.out | apply qc | apply qa | apply qd | refine qg ?_ GE341.out | refine qg ?_ GE346.out) | exact HB.out)⟩
          ·replace c27 := Bool.eq_false_iff.mpr c27
           subst c27
           have H1 : (some false) = some r := by rw [if_neg (show ¬ (false = true) by decide)] at H; exact H
           clear H
           have H := H1
           clear H1
           obtain rfl := Option.some.inj H
           have p336 : 0 ≤ (x43_2 : Int) := of_decide_eq_true (by first | (with_reducible assumption) | assumption)
           have q336 : x43_2 < (y332.length : Int) := of_decide_eq_true (by first | (with_reducible assumption) | assumption)
           obtain ⟨ad336, e336, hx336_0⟩ := Kd.jc (Kd.kn HO_41.out).2.2 x43_2 p336 q336
           cases e336
           replace p336 := eq_true p336
           replace q336 := eq_true q336
           go_wp2_with (first | ((with_reducible refine zt (f := 22) rfl ?_); refine xq (some 49) rfl rfl Tryd.func22 (by kernel_rfl) rfl #[.string (rdOf ByteArray.empty y332 x43_2)] rfl (by (try simp only [List.map_toArray, List.map_cons, List.map_nil]); first | done | rfl | (simp only [List.length_drop, List.length_take]; rfl)) ?_; (with_reducible refine (zm.calls k2 (rdOf ByteArray.empty y332 x43_2) t337 t340 _ ?side1 A24.out).mono ?_); (case side1 => exact LibHeld.below HG.out (by repeat (first | (with_reducible first | exact HB.out | apply qc | apply qa | apply qd) | exact HB.out))); rintro e w51 ⟨v338, rfl, ho0, hb⟩; refine ⟨_, rfl, ?_⟩; have n0_ := qb.mk (Kd.zz (by (with_reducible repeat (first | apply Kd.qt | apply Kd.qr | apply Kd.q8)); exact HO_41.out) hb); have n1_ := qb.mk (Kd.S_lower ho0 (qm (by repeat (first | (with_reducible first | exact HB.out | apply qc | apply qa | apply qd) | exact HB.out)))); have n2_ := qb.mk (qu (by repeat (first | (with_reducible first | exact HB.out | apply qc | apply qa | apply qd) | exact HB.out)) hb); clear HO_41; clear HB; have HO_41 := n0_; have HO339 := n1_; have HB := n2_; clear n0_ n1_ n2_; (try clear hb); (try clear hb2); (try clear hk); (try clear hi); (try clear ho0)) | ((with_reducible refine zw (N := 9) rfl ?_); refine zq ?hg (N := 9) ?hd (cs := #[.slice none 0 0]) (t := 24) ?hr ?_; (case hd => rfl); (case hg => rfl); (case hr => first | (go_simp; done) | (go_simp; rfl)); intro gb341 hg w52 hbox hb; have n0_ := qb.mk (Kd.zz (by (with_reducible repeat (first | apply Kd.qt | apply Kd.qr | apply Kd.q8)); exact HO_41.out) hb); have n1_ := qb.mk (Kd.xb (by (with_reducible repeat (first | apply Kd.zo | apply Kd.zn | apply Kd.zu)); exact HO339.out) hb); have n2_ := qb.mk (qu (by repeat (first | (with_reducible first | exact HB.out | apply qc | apply qa | apply qd) | exact HB.out)) hb); have n3_ := qb.mk (hbox); have n4_ := qb.mk ((by rw [hg]; exact (qm (by repeat (first | (with_reducible first | exact HB.out | apply qc | apply qa | apply qd) | exact HB.out))) : w.heap.size ≤ gb341)); have n5_ := qb.mk ((by rw [hg]; exact (qm (by repeat (first | (with_reducible first | exact HB.out | apply qc | apply qa | apply qd) | exact HB.out))) : w.heap.size ≤ gb341)); clear HO_41; clear HO339; clear HB; have HO_41 := n0_; have HO339 := n1_; have HB := n2_; have BK341 := n3_; have GW341 := n4_; have GE341 := n5_; clear n0_ n1_ n2_ n3_ n4_ n5_; clear hb hbox hg; obtain ⟨Ao53, co53, eo53⟩ := Kd.k0 HO339.out; subst eo53; have hcz54_0 : w52.cell? ⟨gb341, 0, none⟩ = some (.slice none 0 0) := (qq BK341.out 0).trans rfl; have hfz54_0 := ql BK341.out 0) | ((with_reducible refine zt (f := 23) rfl ?_); refine xq (some 54) rfl rfl Tryd.func23 (by kernel_rfl) rfl #[.string (rdOf ByteArray.empty y332 x43_2)] rfl (by (try simp only [List.map_toArray, List.map_cons, List.map_nil]); first | done | rfl | (simp only [List.length_drop, List.length_take]; rfl)) ?_; (with_reducible refine (qi.calls k2 (rdOf ByteArray.empty y332 x43_2) t342 t345 _ A25.out).mono ?_); rintro e w55 ⟨v343, rfl, ho0, hb⟩; refine ⟨_, rfl, ?_⟩; have n0_ := qb.mk (Kd.zz (by (with_reducible repeat (first | apply Kd.qt | apply Kd.qr | apply Kd.q8)); exact (Kd.zr (Kd.xa (p := ⟨gb341, 0, none⟩) (Kd.ka HO_41.out BK341.out (by decide)) (fun _ hk => hk.2) (.slice Ao53 t337.length co53)) (fun _ h_ => h_.1))) hb); have n1_ := qb.mk (Kd.S_elder' (by (with_reducible repeat (first | apply Kd.zo | apply Kd.zn | apply Kd.zu)); exact (Kd.xd (Kd.kk (p := ⟨gb341, 0, none⟩) (Kd.kc HO339.out BK341.out (by decide)) (fun _ hk => hk.2) (.slice Ao53 t337.length co53)) (fun _ h_ => h_.1))) (Kd.S_base ho0) hb); have n2_ := qb.mk (Kd.S_lower (Kd.S_new' ho0 (Kd.S_lt (by (with_reducible repeat (first | apply Kd.zo | apply Kd.zn | apply Kd.zu)); exact (Kd.xd (Kd.kk (p := ⟨gb341, 0, none⟩) (Kd.kc HO339.out BK341.out (by decide)) (fun _ hk => hk.2) (.slice Ao53 t337.length co53)) (fun _ h_ => h_.1))))) (qm (by repeat (first | (with_reducible first | exact HB.out | apply qc | apply qa | apply qd | refine qg ?_ GE341.out) | exact HB.out)))); have n3_ := qb.mk (zd (g := gb341) (o := .cells #[.slice Ao53 t337.length co53] 24 (0, 0)) (by (with_reducible repeat (first | refine qe ?_ _ | refine qh ?_ | refine qf ?_ _)); refine zv (cs := #[.slice none 0 0]) ?_ 0 _ rfl; (with_reducible repeat (first | refine qe ?_ _ | refine qh ?_ | refine qf ?_ _)); exact BK341.out) hb); have n4_ := qb.mk (qu (by repeat (first | (with_reducible first | exact HB.out | apply qc | apply qa | apply qd | refine qg ?_ GE341.out) | exact HB.out)) hb); clear HO_41; clear HO339; clear BK341; clear HB; have HO_41 := n0_; have HO339 := n1_; have HO344 := n2_; have BK341 := n3_; have HB := n4_; clear n0_ n1_ n2_ n3_ n4_; (try clear hb); (try clear hb2); (try clear hk); (try clear hi); (try clear ho0)) | ((with_reducible refine zw (N := 11) rfl ?_); refine zq ?hg (N := 11) ?hd (cs := #[.slice none 0 0]) (t := 24) ?hr ?_; (case hd => rfl); (case hg => rfl); (case hr => first | (go_simp; done) | (go_simp; rfl)); intro gb346 hg w56 hbox hb; have n0_ := qb.mk (Kd.zz (by (with_reducible repeat (first | apply Kd.qt | apply Kd.qr | apply Kd.q8)); exact HO_41.out) hb); have n1_ := qb.mk (Kd.xb (by (with_reducible repeat (first | apply Kd.zo | apply Kd.zn | apply Kd.zu)); exact HO339.out) hb); have n2_ := qb.mk (Kd.xb (by (with_reducible repeat (first | apply Kd.zo | apply Kd.zn | apply Kd.zu)); exact HO344.out) hb); have n3_ := qb.mk (zd (g := gb341) (o := .cells #[.slice Ao53 t337.length co53] 24 (0, 0)) (by (with_reducible repeat (first | refine qe ?_ _ | refine qh ?_ | refine qf ?_ _)); exact BK341.out) hb); have n4_ := qb.mk (qu (by repeat (first | (with_reducible first | exact HB.out | apply qc | apply qa | apply qd | refine qg ?_ GE341.out) | exact HB.out)) hb); have n5_ := qb.mk (hbox); have n6_ := qb.mk ((by rw [hg]; exact (qm (by repeat (first | (with_reducible first | exact HB.out | apply qc | apply qa | apply qd | refine qg ?_ GE341.out) | exact HB.out))) : w.heap.size ≤ gb346)); have n7_ := qb.mk ((by rw [hg]; exact (qm (by repeat (first | (with_reducible first | exact HB.out | apply qc | apply qa | apply qd | refine qg ?_ GE341.out) | exact HB.out))) : w.heap.size ≤ gb346)); have n8_ := qb.mk ((by rw [hg]; exact Nat.ne_of_lt (z7 (g := gb341) (o := .cells #[.slice Ao53 t337.length co53] 24 (0, 0)) (by (with_reducible repeat (first | refine qe ?_ _ | refine qh ?_ | refine qf ?_ _)); exact BK341.out)) : gb341 ≠ gb346)); have n9_ := qb.mk ((by rw [hg]; exact Nat.ne_of_gt (z7 (g := gb341) (o := .cells #[.slice Ao53 t337.length co53] 24 (0, 0)) (by (with_reducible repeat (first | refine qe ?_ _ | refine qh ?_ | refine qf ?_ _)); exact BK341.out)) : gb346 ≠ gb341)); clear HO_41; clear HO339; clear HO344; clear BK341; clear HB; have HO_41 := n0_; have HO339 := n1_; have HO344 := n2_; have BK341 := n3_; have HB := n4_; have BK346 := n5_; have GW346 := n6_; have GE346 := n7_; have NB341_346 := n8_; have NB346_341 := n9_; clear n0_ n1_ n2_ n3_ n4_ n5_ n6_ n7_ n8_ n9_; clear hb hbox hg; obtain ⟨Ao57, co57, eo57⟩ := Kd.k0 HO344.out; subst eo57; have hnb58 := NB346_341.out; have hnc58 := NB341_346.out; have hcz59_0 : w56.cell? ⟨gb346, 0, none⟩ = some (.slice none 0 0) := (qq BK346.out 0).trans rfl; have hfz59_0 := ql BK346.out 0; have hcz60_0 : w56.cell? ⟨gb341, 0, none⟩ = some (.slice Ao53 t337.length co53) := (qq BK341.out 0).trans rfl; have hfz60_0 := ql BK341.out 0) | ((with_reducible refine zt (f := 24) rfl ?_); refine xq (some 59) rfl rfl Tryd.func24 (by kernel_rfl) rfl #[.agg #[.slice Ao53 t337.length co53], .agg #[.slice Ao57 t342.length co57]] rfl (by (try simp only [List.map_toArray, List.map_cons, List.map_nil]); first | done | rfl | (simp only [List.length_drop, List.length_take]; rfl)) ?_; (with_reducible refine (zc.calls k2 _ _ t337 _ _ t342 false _ ?side1 ?side2 ?side3 ?side4 A26.out).mono ?_); (case side1 => refine (Kd.xv (e := 27) (base := w.heap.size) (ok := fun k_ => (True ∧ some k_ ≠ (.slice Ao57 t342.length co57 : Value).ownBlock)) (n := t337.length) (c := co53) ?_).2.2; exact (by (with_reducible repeat (first | apply Kd.zo | apply Kd.zn | apply Kd.zu)); exact (Kd.xd (Kd.kk (p := ⟨gb346, 0, none⟩) (Kd.kc HO339.out BK346.out (by decide)) (fun _ hk => hk.2) (.slice Ao57 t342.length co57)) (fun _ h_ => h_.1)))); (case side2 => exact (Kd.xv HO339.out).2.1); (case side3 => refine (Kd.xv (e := 27) (base := w.heap.size) (ok := fun k_ => (True ∧ some k_ ≠ (.slice Ao53 t337.length co53 : Value).ownBlock)) (n := t342.length) (c := co57) ?_).2.2; exact (by (with_reducible repeat (first | apply Kd.zo | apply Kd.zn | apply Kd.zu)); exact (Kd.xd (Kd.kk (p := ⟨gb346, 0, none⟩) (Kd.kc HO344.out BK346.out (by decide)) (fun _ hk => hk.2) (.slice Ao57 t342.length co57)) (fun _ h_ => h_.1)))); (case side4 => exact (Kd.xv HO344.out).2.1); rintro e w61 ⟨rfl, hb⟩; refine ⟨_, rfl, ?_⟩; have n0_ := qb.mk (Kd.zz (by (with_reducible repeat (first | apply Kd.qt | apply Kd.qr | apply Kd.q8)); exact (Kd.zr (Kd.xa (p := ⟨gb346, 0, none⟩) (Kd.ka HO_41.out BK346.out (by decide)) (fun _ hk => hk.2) (.slice Ao57 t342.length co57)) (fun _ h_ => h_.1))) hb); have n1_ := qb.mk (Kd.xb (by (with_reducible repeat (first | apply Kd.zo | apply Kd.zn | apply Kd.zu)); exact (Kd.xd (Kd.kk (p := ⟨gb346, 0, none⟩) (Kd.kc HO339.out BK346.out (by decide)) (fun _ hk => hk.2) (.slice Ao57 t342.length co57)) (fun _ h_ => h_.1))) hb); have n2_ := qb.mk (Kd.xb (by (with_reducible repeat (first | apply Kd.zo | apply Kd.zn | apply Kd.zu)); exact (Kd.xd (Kd.kk (p := ⟨gb346, 0, none⟩) (Kd.kc HO344.out BK346.out (by decide)) (fun _ hk => hk.2) (.slice Ao57 t342.length co57)) (fun _ h_ => h_.1))) hb); have n3_ := qb.mk (zd (g := gb341) (o := .cells #[.slice Ao53 t337.length co53] 24 (0, 0)) (by (with_reducible repeat (first | refine qe ?_ _ | refine qh ?_ | refine qf ?_ _)); refine z6 ?_ NB341_346.out _; (with_reducible repeat (first | refine qe ?_ _ | refine qh ?_ | refine qf ?_ _)); exact BK341.out) hb); have n4_ := qb.mk (zd (g := gb346) (o := .cells #[.slice Ao57 t342.length co57] 24 (0, 0)) (by (with_reducible repeat (first | refine qe ?_ _ | refine qh ?_ | refine qf ?_ _)); refine zv (cs := #[.slice none 0 0]) ?_ 0 _ rfl; (with_reducible repeat (first | refine qe ?_ _ | refine qh ?_ | refine qf ?_ _)); exact BK346.out) hb); have n5_ := qb.mk (qu (by repeat (first | (with_reducible first | exact HB.out | apply qc | apply qa | apply qd | refine qg ?_ GE341.out | refine qg ?_ GE346.out) | exact HB.out)) hb); clear HO_41; clear HO339; clear HO344; clear BK341; clear BK346; clear HB; have HO_41 := n0_; have HO339 := n1_; have HO344 := n2_; have BK341 := n3_; have BK346 := n4_; have HB := n5_; clear n0_ n1_ n2_ n3_ n4_ n5_; (try clear hb); (try clear hb2); (try clear hk); (try clear hi)))
           go_ret
           exact ⟨by first | rfl | (simp [qy, qx] <;> rfl) | (simp [*, qy, qx] <;> rfl), by repeat (first | (with_reducible first | exact HB.out | apply qc | apply qa | apply qd | refine qg ?_ GE341.out | refine qg ?_ GE346.out) | exact HB.out)⟩
         ·rw [if_neg c23] at H
          exact absurd H (by simp)
        ·rw [if_neg c22] at H
         exact absurd H (by simp)
       ·rw [if_neg c21] at H
        have c21b0 : decide (x43_2 < (y332.length : Int)) = false := decide_eq_false c21
        clear c21
        replace H := Option.bind_eq_some_iff.mp H
        obtain ⟨t335, A620, H⟩ := H
        replace H : (some t335) = some r := H
        have A62 := qb.mk A620
        clear A620
        obtain rfl := Option.some.inj H
        go_wp2_with (first | ((with_reducible refine zt (f := 12) rfl ?_); refine xq (some 67) rfl rfl Tryd.func12 (by kernel_rfl) rfl #[] rfl (by (try simp only [List.map_toArray, List.map_cons, List.map_nil]); first | done | rfl | (simp only [List.length_drop, List.length_take]; rfl)) ?_; (with_reducible refine (zx.calls k2  t335 _ ?side1 A62.out).mono ?_); (case side1 => exact LibHeld.below HG.out (by repeat (first | (with_reducible first | exact HB.out | apply qc | apply qa | apply qd) | exact HB.out))); rintro e w63 ⟨rfl, hb⟩; refine ⟨_, rfl, ?_⟩; have n0_ := qb.mk (Kd.zz (by (with_reducible repeat (first | apply Kd.qt | apply Kd.qr | apply Kd.q8)); exact HO_41.out) hb); have n1_ := qb.mk (qu (by repeat (first | (with_reducible first | exact HB.out | apply qc | apply qa | apply qd) | exact HB.out)) hb); clear HO_41; clear HB; have HO_41 := n0_; have HB := n1_; clear n0_ n1_; (try clear hb); (try clear hb2); (try clear hk); (try clear hi)))
        go_ret
        exact ⟨by first | rfl | (simp [qy, qx] <;> rfl) | (simp [*, qy, qx] <;> rfl), by repeat (first | (with_reducible first | exact HB.out | apply qc | apply qa | apply qd) | exact HB.out)⟩
    ·rw [if_neg c17] at H
     exact absurd H (by simp)
def qw.Pure : Prop := ∀ (a0 : ByteArray) (l1 : List Int), a0.size ≤ 140737488351232 → l1.length ≤ maxLen → l1.length * 1 ≤ 140737488351232 → (∀ x ∈ l1, (Lit.int .u8 x).wf = true) → ∃ k, qw.f k a0 l1 = some true
theorem qw.walk (P : qw.Pure) (a0 : ByteArray) (a1 : Option Addr) (len1 cap1 : Nat) (z1 : List Int) (w : World) (hG : LibHeld w) (w0 : a0.size ≤ 140737488351232) (w1 : (a1 = none ∧ len1 = 0 ∧ cap1 = 0 ∧ z1 = []) ∨ ∃ x, a1 = some x ∧ len1 ≤ cap1 ∧ cap1 ≤ maxLen ∧ z1.length = cap1 ∧ (∀ i, i < z1.length → w.cell? (x.add i) = some (.int .u8 (z1.getD i 0))) ∧ ∀ n ∈ z1, (Lit.int .u8 n).wf = true) (y1 : len1 * 1 ≤ 140737488351232) :
  Calls Tryd.prog 6 #[.string a0, .slice a1 len1 cap1] w fun e w' => e = .returned (.bool true) ∧ Below w.heap.size w w' := by
 obtain ⟨l1, rfl, hr1, hm1, hw1, hc1⟩ := ReadsInt.ofRowC w1
 obtain ⟨k, h⟩ := P a0 l1 w0 hm1 y1 hw1
 refine (qw.calls k a0 _ _ l1 true w hG (Kd.C_of_reads (d := (0 : Int)) (h1 := fun _ => rfl) hr1) hc1 h).mono ?_
 rintro e w' ⟨rfl, hd⟩
 exact ⟨rfl, hd⟩
end Go.Proofs.YtaonlbjdhilioaaDoor.C
end
section
namespace Go.Proofs.YtaonlbjdhilioaaDoorW.PrintWords
theorem Ev.pos {α : Type} {c : Prop} [Decidable c] {f g : Nat → Option α} {r : α} (h : c) (k : Ev f r) : Ev (fun n => if c then f n else g n) r := by simpa only [if_pos h] using k
theorem Ev.neg {α : Type} {c : Prop} [Decidable c] {f g : Nat → Option α} {r : α} (h : ¬ c) (k : Ev g r) : Ev (fun n => if c then f n else g n) r := by simpa only [if_neg h] using k
theorem Ev.bnd {α β : Type} {o : Option α} {f : Nat → α → Option β} {a : α} {r : β} (h : o = some a) (k : Ev (fun n => f n a) r) : Ev (fun n => o.bind (f n)) r := by simpa only [h, Option.bind_some] using k
theorem Ev.to {α : Type} {g : Nat → Option α} {r r' : α} (k : Ev g r) (h : r = r') : Ev g r' := h ▸ k
theorem Ev.unique {α : Type} {g : Nat → Option α} {r r' : α} (h : Ev g r) (k : Ev g r') : r = r' := by
 obtain ⟨K, h⟩ := h
 obtain ⟨K', k⟩ := k
 exact Option.some.inj ((h (max K K') (by omega)).symm.trans (k (max K K') (by omega)))
end Go.Proofs.YtaonlbjdhilioaaDoorW.PrintWords
namespace Go.Proofs.YtaonlbjdhilioaaDoor.Pl
open Go.RowKit Go.Proofs.YtaonlbjdhilioaaDoorW.PrintWords
def L (s : ByteArray) : List UInt8 := s.data.toList
def S (l : List UInt8) : ByteArray := ⟨l.toArray⟩
theorem L_S (l : List UInt8) : L (S l) = l := rfl
theorem S_L (s : ByteArray) : S (L s) = s := Lib.mk_data s
theorem L_inj {a b : ByteArray} (h : L a = L b) : a = b := by rw [← S_L a, ← S_L b, h]
theorem ja (s : ByteArray) : s.size = (L s).length := Lib.size_eq s
theorem jh (l : List UInt8) : (S l).size = l.length := by rw [ja, L_S]
theorem xy (s : ByteArray) : s.toList = L s := Lib.toList_data s
theorem L_extract (s : ByteArray) (a b : Nat) : L (s.extract a b) = ((L s).drop a).take (b - a) := Lib.extract_data s a b
theorem L_append (a b : ByteArray) : L (a ++ b) = L a ++ L b := by simp [L]
theorem L_nums (xs : List Int) : L (strOfNums xs) = xs.map fun n => UInt8.ofNat n.toNat := rfl
theorem L_nums_bytes (l : List UInt8) : L (strOfNums (l.map fun b => (b.toNat : Int))) = l := by
 rw [L_nums, List.map_map]
 conv => rhs; rw [← List.map_id l]
 apply List.map_congr_left
 intro b _
 simp
theorem nums_bytes (l : List UInt8) : strOfNums (l.map fun b => (b.toNat : Int)) = S l := L_inj (by rw [L_nums_bytes, L_S])
theorem w64 {n : Int} (h : -9223372036854775808 ≤ n) (h' : n ≤ 9223372036854775807) : wrap64 n = n := by unfold wrap64; omega
theorem xz {s : ByteArray} {i : Nat} {c : UInt8} {r : List UInt8} (h : (L s).drop i = c :: r) : i < s.size ∧ bt s i = c.toNat ∧ (L s).drop (i + 1) = r := by
 have hl : i < (L s).length := by
  rcases Nat.lt_or_ge i (L s).length with h' | h'
  ·exact h'
  ·rw [List.drop_eq_nil_of_le h'] at h; cases h
 have hs : i < s.size := by rw [ja]; exact hl
 have hg : (L s)[i] = c ∧ (L s).drop (i + 1) = r := by
  rw [List.drop_eq_getElem_cons hl] at h
  exact ⟨(List.cons.inj h).1, (List.cons.inj h).2⟩
 refine ⟨hs, ?_, hg.2⟩
 unfold bt
 rw [dif_pos (show (i : Int).toNat < s.size from hs)]
 rw [← hg.1]
 rfl
theorem at_nil {s : ByteArray} {i : Nat} (h : (L s).drop i = []) : s.size ≤ i := by
 rw [ja]
 exact List.drop_eq_nil_iff.1 h
theorem at_some {s : ByteArray} {i : Nat} (h : i < s.size) : ∃ c, (L s).drop i = c :: (L s).drop (i + 1) ∧ bt s i = c.toNat := by
 have hl : i < (L s).length := by rw [← ja]; exact h
 exact ⟨_, List.drop_eq_getElem_cons hl, (xz (List.drop_eq_getElem_cons hl)).2.1⟩
theorem bt_S_cons (c : UInt8) (r : List UInt8) : bt (S (c :: r)) 0 = c.toNat := (xz (s := S (c :: r)) (i := 0) rfl).2.1
def pieces (c : UInt8) : List UInt8 → List (List UInt8)
 | [] => [[]]
 | b :: l => if b = c then [] :: pieces c l else (b :: (pieces c l).headD []) :: (pieces c l).tail
theorem pieces_ne (c : UInt8) (l : List UInt8) : pieces c l ≠ [] := by
 cases l with
 | nil => simp [pieces]
 | cons b l => unfold pieces; split <;> simp
theorem pieces_eta (c : UInt8) (l : List UInt8) : (pieces c l).headD [] :: (pieces c l).tail = pieces c l := by
 cases h : pieces c l with
 | nil => exact absurd h (pieces_ne c l)
 | cons p ps => rfl
theorem pieces_size (c : UInt8) : ∀ (l : List UInt8), ∀ p ∈ pieces c l, p.length ≤ l.length
 | [], p, hp => by simp [pieces] at hp; simp [hp]
 | b :: l, p, hp => by
  have ih := pieces_size c l
  unfold pieces at hp
  split at hp
  ·rcases List.mem_cons.1 hp with rfl | hp
   ·simp
   ·have := ih p hp; simp; omega
  ·rw [← pieces_eta c l] at ih
   rcases List.mem_cons.1 hp with rfl | hp
   ·have := ih _ (List.mem_cons_self ..); simp only [List.length_cons]; omega
   ·have := ih p (List.mem_cons_of_mem _ hp); simp; omega
theorem jl (c : UInt8) : ∀ (l : List UInt8), (pieces c l).length ≤ l.length + 1
 | [] => by simp [pieces]
 | b :: l => by
  have ih := jl c l
  unfold pieces
  split
  ·simp; omega
  ·simp; omega
theorem index_one_ne {b c : UInt8} (l : List UInt8) (h : b ≠ c) : Lib.index (b :: l) [c] = if Lib.index l [c] == -1 then -1 else Lib.index l [c] + 1 := by
 have hp : ([c] : List UInt8).isPrefixOf (b :: l) = false := by simp [List.isPrefixOf, Ne.symm h]
 rw [Lib.index, hp]; simp
theorem index_one_eq (c : UInt8) (l : List UInt8) : Lib.index (c :: l) [c] = 0 := by rw [Lib.index]; simp [List.isPrefixOf]
theorem split_pieces (c : UInt8) : ∀ l : List UInt8, Lib.splitK [c] 0 (Lib.count l [c]) l = pieces c l
 | [] => by rw [Lib.count_miss (by simp [Lib.index])]; rfl
 | b :: l => by
  have ih := split_pieces c l
  by_cases h : b = c
  ·subst h
   rw [Lib.count_cons_eq, Nat.add_comm, Lib.splitK, index_one_eq]
   unfold pieces
   rw [if_pos rfl, ← ih]
   simp
  ·rw [Lib.count_cons_ne b c l h]
   unfold pieces
   rw [if_neg h, ← ih]
   cases hn : Lib.count l [c] with
   | zero => rfl
   | succ n =>
    have hix := index_one_ne l h
    by_cases hm : Lib.index l [c] = -1
    ·rw [Lib.count_miss hm] at hn; omega
    ·have hge := Lib.index_ge l [c]
     obtain ⟨j, hj⟩ : ∃ j : Nat, Lib.index l [c] = j := ⟨(Lib.index l [c]).toNat, by omega⟩
     have hx : Lib.index (b :: l) [c] = ((j + 1 : Nat) : Int) := by rw [hix, if_neg (fun e => hm (beq_iff_eq.1 e)), hj]; omega
     rw [Lib.splitK, Lib.splitK, hx, hj]
     rw [if_neg (fun e => by have := beq_iff_eq.1 e; omega), if_neg (fun e => by have := beq_iff_eq.1 e; omega)]
     simp
theorem splitB_pieces (c : UInt8) (s : ByteArray) : Lib.splitB ⟨#[c]⟩ 0 (Lib.countB s ⟨#[c]⟩) s = (pieces c (L s)).map S := by
 have h := Lib.splitB_data (⟨#[c]⟩ : ByteArray) 0 (Lib.countB s ⟨#[c]⟩) s
 have h2 : Lib.splitK [c] 0 (Lib.countB s ⟨#[c]⟩) s.data.toList = pieces c (L s) := split_pieces c (L s)
 have h3 : (Lib.splitB ⟨#[c]⟩ 0 (Lib.countB s ⟨#[c]⟩) s).map (·.data.toList) = pieces c (L s) := h.trans h2
 rw [← h3, List.map_map]
 conv => lhs; rw [← List.map_id (Lib.splitB ⟨#[c]⟩ 0 (Lib.countB s ⟨#[c]⟩) s)]
 apply List.map_congr_left
 intro t _
 exact (S_L t).symm
def before (c : UInt8) (l : List UInt8) : List UInt8 := l.takeWhile (fun b => !(b == c))
theorem before_cons_eq (c : UInt8) (l : List UInt8) : before c (c :: l) = [] := by simp [before]
theorem before_cons_ne {b c : UInt8} (l : List UInt8) (h : b ≠ c) : before c (b :: l) = b :: before c l := by simp [before, h]
theorem jg (c : UInt8) : ∀ l : List UInt8, (before c l).length ≤ l.length
 | [] => by simp [before]
 | b :: l => by
  by_cases h : b = c
  ·subst h; simp [before_cons_eq]
  ·rw [before_cons_ne l h]; have := jg c l; simp; omega
theorem before_take (c : UInt8) : ∀ l : List UInt8, l.take (before c l).length = before c l
 | [] => by simp [before]
 | b :: l => by
  by_cases h : b = c
  ·subst h; simp [before_cons_eq]
  ·rw [before_cons_ne l h]; simp [before_take c l]
theorem index_before (c : UInt8) : ∀ l : List UInt8, Lib.index l [c] = if (before c l).length = l.length then -1 else ((before c l).length : Int)
 | [] => by simp [before, Lib.index]
 | b :: l => by
  by_cases h : b = c
  ·subst h
   rw [index_one_eq, before_cons_eq]
   simp
  ·rw [index_one_ne l h, before_cons_ne l h, index_before c l]
   have := jg c l
   by_cases hh : (before c l).length = l.length
   ·simp [hh]
   ·have h2 : ¬ (b :: before c l).length = (b :: l).length := by simpa using hh
    rw [if_neg h2]
    simp only [if_neg hh]
    rw [if_neg (fun e => by have := beq_iff_eq.1 e; omega)]
    simp
theorem cut_before (c : UInt8) (l : List UInt8) : Lib.cut l [c] = if (before c l).length = l.length then (l, [], false) else (before c l, l.drop ((before c l).length + 1), true) := by
 have := jg c l
 unfold Lib.cut
 rw [index_before]
 by_cases hh : (before c l).length = l.length
 ·rw [if_pos hh, if_pos hh, if_neg (by omega)]
 ·rw [if_neg hh, if_neg hh, if_pos (by omega)]
  simp [before_take]
end Go.Proofs.YtaonlbjdhilioaaDoor.Pl
end
section
namespace Go.Proofs.YtaonlbjdhilioaaDoor.C
open Go.RowKit Go.Proofs.YtaonlbjdhilioaaDoorW.PrintWords Go.Proofs.YtaonlbjdhilioaaDoorW.PrintLast Go.Proofs.YtaonlbjdhilioaaDoorW.PrintMore
attribute [local go_sem] kf ke kp kr xr xt kg ki
set_option linter.unusedVariables false
set_option linter.unusedSimpArgs false
end Go.Proofs.YtaonlbjdhilioaaDoor.C
end
section
namespace Go.Proofs.YtaonlbjdhilioaaDoor.C
open Go.RowKit Go.Proofs.YtaonlbjdhilioaaDoorW.PrintWords Go.Proofs.YtaonlbjdhilioaaDoorW.PrintLast Go.Proofs.YtaonlbjdhilioaaDoorW.PrintMore
attribute [local go_sem] kf ke kp kr xr xt kg ki
set_option linter.unusedVariables false
set_option linter.unusedSimpArgs false
end Go.Proofs.YtaonlbjdhilioaaDoor.C
end
