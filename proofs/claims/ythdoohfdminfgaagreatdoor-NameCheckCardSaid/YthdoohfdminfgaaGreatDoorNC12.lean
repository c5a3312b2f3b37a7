/- Words, walks and plain laws that the claim rests on, gathered. -/
import Derived.Below
import Derived.Deep.Draws
import Derived.Deep.AppendLies
import Derived.Maps.AppendAt
import Derived.OwnWalk
import Derived.Laws.BytesArg
import Derived.Laws.MakeOwn
import Derived.Laws.OwnMore
import Derived.Deep.OwnRows
import Derived.Tactics
import Derived.Lib.ConvBytes
import Derived.Laws.Slices
import Derived.WalkKit
import Derived.KernelRfl
import Derived.RowKit3
import Derived.Deep.LoopGhost
import Derived.Deep.QuietTactic
import Derived.BigQuiet
import Derived.WideLaws
import Derived.Deep.DeepCutAuto
import Derived.Deep.CutBlock
import Derived.Deep.RegionHeld3
import Derived.Laws.Rows
import Derived.Lib.AppendStr
import Derived.ArgAppend
import Derived.Laws.IdiomCopy
import Derived.RowKit
import Derived.Shelf.Strings.Builder1
import Derived.Shelf.Strings.Builder2
import Derived.Shelf.Strings.OnBuilder
import Derived.Shelf.Small.Bits
import Derived.Shelf.Small.Strs
import Derived.Shelf.Strconv.Itoa0
import Derived.Shelf.Strings.Search1
import Derived.Shelf.Strings.Search2
import Derived.Shelf.Strings.Search3
import Derived.Shelf.Strings.Cut
import Derived.Shelf.Strings.Count
import Derived.Shelf.LaysM
import Derived.Shelf.Strings.Shaped
import Derived.Shelf.Sort.Plain
import Derived.Shelf.Strings.Prefix
import Derived.Shelf.Strings.Split
import Derived.Shelf.Strings.SplitShaped
import Derived.Shelf.Unicode.DecodeSlow
import Derived.Shelf.Slices.In.SortNone
import Derived.Shelf.Slices.In.SortNone2
import Derived.Test.YthdoohfdminfgaaGreatDoorProg
import Derived.WalkSpells
import Derived.OrdersHeld
import Derived.Laws.BitsLemmas
import Derived.WalkLawsBesides
import Derived.Laws.StructEq
import Derived.Test.YthdoohfdminfgaaGreatDoorNC0
import Derived.Test.YthdoohfdminfgaaGreatDoorNC1
import Derived.Test.YthdoohfdminfgaaGreatDoorNC2
import Derived.Test.YthdoohfdminfgaaGreatDoorNC11
import Derived.Test.YthdoohfdminfgaaGreatDoorNCc
namespace Go.Proofs.YthdoohfdminfgaaGreatDoorW.PrintLast
end Go.Proofs.YthdoohfdminfgaaGreatDoorW.PrintLast
namespace Go.Proofs.YthdoohfdminfgaaGreatDoorW.PrintMore
end Go.Proofs.YthdoohfdminfgaaGreatDoorW.PrintMore
namespace Go.Proofs.YthdoohfdminfgaaGreatDoorW.PrintWords
end Go.Proofs.YthdoohfdminfgaaGreatDoorW.PrintWords
section
namespace Go.Proofs.YthdoohfdminfgaaGreatDoor.C
open Go.RowKit Go.Proofs.YthdoohfdminfgaaGreatDoorW.PrintWords Go.Proofs.YthdoohfdminfgaaGreatDoorW.PrintLast Go.Proofs.YthdoohfdminfgaaGreatDoorW.PrintMore
attribute [local go_sem] kc xy kr ks xh xg xz xx
set_option linter.unusedVariables false
set_option linter.unusedSimpArgs false
mutual
def zw.j0 : Nat → Int → List ByteArray → Bool → Option (ByteArray × Int)
 | 0, _, _, _ => none
 | k + 1, x0, x1, x20 => if x20 = true then (some ((⟨#[]⟩ : ByteArray), 5)) else (zw.l0 k x0 x1 0 x1 (x1.length : Int) 0)
def zw.l0 : Nat → Int → List ByteArray → Int → List ByteArray → Int → Int → Option (ByteArray × Int)
 | 0, _, _, _, _, _, _ => none
 | k + 1, x0, x1, x6, x21, x22, x23 => if x23 < x22 then (if 0 ≤ x23 then (if x23 < (x21.length : Int) then (if ((rdOf ByteArray.empty x21 x23).size : Int) > (wrap64 (131072 - x6)) then (some ((⟨#[]⟩ : ByteArray), 6)) else (zw.l0 k x0 x1 (wrap64 (x6 + ((rdOf ByteArray.empty x21 x23).size : Int))) x21 x22 (wrap64 (x23 + 1)))) else (none)) else (none)) else ((some (([(x0) % 256] : List Int) : List Int)).bind fun y288 => (if x6 < 128 then (if y288.length < 140737488355328 then ((some (y288 ++ [(x6) % 256] : List Int)).bind fun y291 => ((strings_Join.f x1 (⟨#[]⟩ : ByteArray)).bind fun t294 => (if (strOfNums y291).size + t294.size ≤ 9223372036854775807 then (some ((strOfNums y291) ++ t294, 0)) else (none)))) else (none)) else (if x6 < 256 then ((some (([129, (x6) % 256] : List Int) : List Int)).bind fun y295 => (if y288.length + y295.length < 140737488355328 then ((some (y288 ++ y295 : List Int)).bind fun y298 => ((strings_Join.f x1 (⟨#[]⟩ : ByteArray)).bind fun t301 => (if (strOfNums y298).size + t301.size ≤ 9223372036854775807 then (some ((strOfNums y298) ++ t301, 0)) else (none)))) else (none))) else (if x6 < 65536 then ((some (([130, (x6 / 256) % 256, (x6) % 256] : List Int) : List Int)).bind fun y302 => (if y288.length + y302.length < 140737488355328 then ((some (y288 ++ y302 : List Int)).bind fun y305 => ((strings_Join.f x1 (⟨#[]⟩ : ByteArray)).bind fun t308 => (if (strOfNums y305).size + t308.size ≤ 9223372036854775807 then (some ((strOfNums y305) ++ t308, 0)) else (none)))) else (none))) else ((some (([131, (x6 / 65536) % 256, (x6 / 256) % 256, (x6) % 256] : List Int) : List Int)).bind fun y309 => (if y288.length + y309.length < 140737488355328 then ((some (y288 ++ y309 : List Int)).bind fun y312 => ((strings_Join.f x1 (⟨#[]⟩ : ByteArray)).bind fun t315 => (if (strOfNums y312).size + t315.size ≤ 9223372036854775807 then (some ((strOfNums y312) ++ t315, 0)) else (none)))) else (none)))))))
end
def zw.f (k : Nat) (a0 : Int) (l1 : List ByteArray) : Option (ByteArray × Int) := if a0 < 0 then (zw.j0 k a0 l1 true) else (if a0 > 255 then (zw.j0 k a0 l1 true) else (zw.j0 k a0 l1 ((Go.bits .and .i64 a0 31) == 31)))
theorem zw.xl : ∀ k, (∀ y0 y1 y2, LeO (zw.j0 k y0 y1 y2) (zw.j0 (k + 1) y0 y1 y2)) ∧ (∀ y0 y1 y2 y3 y4 y5, LeO (zw.l0 k y0 y1 y2 y3 y4 y5) (zw.l0 (k + 1) y0 y1 y2 y3 y4 y5))
 | 0 => ⟨fun _ _ _ r h => by simp [zw.j0] at h, fun _ _ _ _ _ _ r h => by simp [zw.l0] at h⟩
 | k + 1 => by
  obtain ⟨ih0, ih1⟩ := zw.xl k
  refine ⟨?_, ?_⟩
  ·intro y0 y1 y2
   unfold zw.j0
   repeat' first
   | (with_reducible exact ih0 _ _ _)
   | (with_reducible exact ih1 _ _ _ _ _ _)
   | (with_reducible exact LeO.refl _)
   | (with_reducible exact LeO.none _)
   | (with_reducible refine LeO.ite ?_ ?_)
   | (with_reducible refine LeO.bind ?_ (fun _ => ?_))
  ·intro y0 y1 y2 y3 y4 y5
   unfold zw.l0
   repeat' first
   | (with_reducible exact ih0 _ _ _)
   | (with_reducible exact ih1 _ _ _ _ _ _)
   | (with_reducible exact LeO.refl _)
   | (with_reducible exact LeO.none _)
   | (with_reducible refine LeO.ite ?_ ?_)
   | (with_reducible refine LeO.bind ?_ (fun _ => ?_))
theorem zw.mono : ∀ a0 a1 k, LeO (zw.f k a0 a1) (zw.f (k + 1) a0 a1) := by
 intro a0 a1 k
 obtain ⟨ih0, ih1⟩ := zw.xl k
 unfold zw.f
 repeat' first
   | (with_reducible exact ih0 _ _ _)
   | (with_reducible exact ih1 _ _ _ _ _ _)
   | (with_reducible exact LeO.refl _)
   | (with_reducible exact LeO.none _)
   | (with_reducible refine LeO.ite ?_ ?_)
   | (with_reducible refine LeO.bind ?_ (fun _ => ?_))
set_option maxHeartbeats 8000000 in
set_option maxRecDepth 100000 in
theorem zw.calls (k : Nat) (a0 : Int) (A1 : Option Addr) (c1 : Nat) (l1 : List ByteArray) (r1 : ByteArray) (r2 : Int) (w : World) (hr1 : Kd.C Kd.string w A1 l1.length l1) (hc1 : l1.length ≤ c1) (h : zw.f k a0 l1 = some (r1, r2)) :
  Calls Tryz.prog 45 #[.int .i64 a0, .slice A1 l1.length c1] w fun e w' => e = .returned (.tuple #[.string r1, .int .i64 r2]) ∧ Below w.heap.size w w' := by
 have HR1 := qb.mk hr1
 have HC1 := qb.mk hc1
 clear hr1 hc1
 have HB := qb.mk (Below.refl w.heap.size w)
 have H : (if a0 < 0 then (zw.j0 k a0 l1 true) else (if a0 > 255 then (zw.j0 k a0 l1 true) else (zw.j0 k a0 l1 ((Go.bits .and .i64 a0 31) == 31)))) = some (r1, r2) := h
 clear h
 have HC3 := qb.mk H
 clear H
 go_enter Tryz.func45, Tryz.ntmps45
 go_upto_region 1 with (fail)
 go_cut [20] (fun v20 wc => ∃ (kq : Nat) (x20_2 : Bool), v20 = .bool x20_2 ∧ qb (zw.j0 kq a0 l1 x20_2 = some (r1, r2)) ∧ qb (kq ≤ k) ∧ qb (Below w.heap.size w wc))
 case first =>
  have H := HC3.out
  clear HC3
  by_cases c4 : a0 < 0
  ·rw [if_pos c4] at H
   have c4b0 : decide (a0 < 0) = true := decide_eq_true c4
   clear c4
   (first | rw [c4b0] | (simp only [zo, zr]; rw [c4b0]) | skip)
   have H' := qb.mk H
   clear H
   go_wp2
   go_meet
   case rel => exact ⟨_, (true), yf, H', ⟨by first | omega | exact Nat.le_refl _⟩, ⟨by repeat (first | (with_reducible first | exact HB.out | apply qc | apply qa | apply qd) | exact HB.out)⟩⟩
  ·rw [if_neg c4] at H
   have c4b0 : decide (a0 < 0) = false := decide_eq_false c4
   clear c4
   (first | rw [c4b0] | (simp only [zo, zr]; rw [c4b0]) | skip)
   by_cases c5 : a0 > 255
   ·rw [if_pos c5] at H
    have c5b0 : decide (255 < a0) = true := decide_eq_true c5
    clear c5
    have H' := qb.mk H
    clear H
    go_wp2
    go_meet
    case rel => exact ⟨_, (true), yf, H', ⟨by first | omega | exact Nat.le_refl _⟩, ⟨by repeat (first | (with_reducible first | exact HB.out | apply qc | apply qa | apply qd) | exact HB.out)⟩⟩
   ·rw [if_neg c5] at H
    have c5b0 : decide (255 < a0) = false := decide_eq_false c5
    clear c5
    have H' := qb.mk H
    clear H
    go_wp2
    go_meet
    case rel => exact ⟨_, (((Go.bits .and .i64 a0 31) == 31)), yf, H', ⟨by first | omega | exact Nat.le_refl _⟩, ⟨by repeat (first | (with_reducible first | exact HB.out | apply qc | apply qa | apply qd) | exact HB.out)⟩⟩
 case rest =>
  clear HC3
  (try clear c1); (try clear p2); (try clear c4); (try clear c4b0); (try clear c5); try clear c5b0
  obtain ⟨kq, x20_2, rfl, HA, HJ2, HB⟩ := hcut
  cases kq with
  | zero => exact absurd HA.out (by simp [zw.j0])
  | succ kj2 =>
   have H := HA.out
   clear HA
   simp only [zw.j0] at H
   by_cases c6 : x20_2 = true
   ·subst c6
    have H1 : (some ((⟨#[]⟩ : ByteArray), 5)) = some (r1, r2) := by rw [if_pos rfl] at H; exact H
    clear H
    have H := H1
    clear H1
    simp only [Option.some.injEq, Prod.mk.injEq] at H
    obtain ⟨rfl, rfl⟩ := H
    go_wp2
    go_ret2
    exact ⟨by first | rfl | (simp [qt, qu] <;> rfl) | (simp [*, qt, qu] <;> rfl), by repeat (first | (with_reducible first | exact HB.out | apply qc | apply qa | apply qd) | exact HB.out)⟩
   ·replace c6 := Bool.eq_false_iff.mpr c6
    subst c6
    have H1 : (zw.l0 kj2 a0 l1 0 l1 (l1.length : Int) 0) = some (r1, r2) := by rw [if_neg (show ¬ (false = true) by decide)] at H; exact H
    clear H
    have H := H1
    clear H1
    have H' := qb.mk H
    clear H
    go_wp2
    go_loopg [6, 23] kj2 (fun kq v6 v23 w' => ∃ (x6_2 : Int) (x23_2 : Int), v6 = .int .i64 x6_2 ∧ v23 = .int .i64 x23_2 ∧ qb (zw.l0 kq a0 l1 x6_2 l1 (l1.length : Int) x23_2 = some (r1, r2)) ∧ qb (kq ≤ kj2) ∧ qb (Below w.heap.size w w'))
    case atStart => exact ⟨(0), (0), yf, yf, H', ⟨Nat.le_refl _⟩, ⟨by repeat (first | (with_reducible first | exact HB.out | apply qc | apply qa | apply qd) | exact HB.out)⟩⟩
    case round =>
     clear H'
     (try clear c1); (try clear p2); (try clear c4); (try clear c4b0); (try clear c5); (try clear c5b0); (try clear c6); try clear p2
     obtain ⟨x6_2, x23_2, rfl, rfl, HA, HK2, HB⟩ := hrel
     cases gk with
     | zero => exact absurd HA.out (by simp [zw.l0])
     | succ k2 =>
      have H := HA.out
      clear HA
      simp only [zw.l0] at H
      by_cases c7 : x23_2 < (l1.length : Int)
      ·rw [if_pos c7] at H
       have c7b0 : decide (x23_2 < (l1.length : Int)) = true := decide_eq_true c7
       clear c7
       by_cases c8 : 0 ≤ x23_2
       ·rw [if_pos c8] at H
        have c8b0 : decide (0 ≤ x23_2) = true := decide_eq_true c8
        clear c8
        by_cases c9 : x23_2 < (l1.length : Int)
        ·rw [if_pos c9] at H
         have c9b0 : decide (x23_2 < (l1.length : Int)) = true := decide_eq_true c9
         clear c9
         by_cases c10 : ((rdOf ByteArray.empty l1 x23_2).size : Int) > (wrap64 (131072 - x6_2))
         ·rw [if_pos c10] at H
          have c10b0 : decide ((wrap64 (131072 - x6_2)) < ((rdOf ByteArray.empty l1 x23_2).size : Int)) = true := decide_eq_true c10
          clear c10
          simp only [Option.some.injEq, Prod.mk.injEq] at H
          obtain ⟨rfl, rfl⟩ := H
          have p287 : 0 ≤ (x23_2 : Int) := of_decide_eq_true yc
          have q287 : x23_2 < (l1.length : Int) := of_decide_eq_true yc
          obtain ⟨ad287, e287, hx287_0⟩ := Kd.at_string HR1.out x23_2 p287 q287
          cases e287
          replace hx287_0 := (HB.out.cell (World.block_lt_of_cell? w _ hx287_0)).trans hx287_0
          replace p287 := eq_true p287
          replace q287 := eq_true q287
          go_wp2
          go_ret2
          exact ⟨by first | rfl | (simp [qt, qu] <;> rfl) | (simp [*, qt, qu] <;> rfl), by repeat (first | (with_reducible first | exact HB.out | apply qc | apply qa | apply qd) | exact HB.out)⟩
         ·rw [if_neg c10] at H
          have c10b0 : decide ((wrap64 (131072 - x6_2)) < ((rdOf ByteArray.empty l1 x23_2).size : Int)) = false := decide_eq_false c10
          clear c10
          have H' := qb.mk H
          clear H
          have p287 : 0 ≤ (x23_2 : Int) := of_decide_eq_true yc
          have q287 : x23_2 < (l1.length : Int) := of_decide_eq_true yc
          obtain ⟨ad287, e287, hx287_0⟩ := Kd.at_string HR1.out x23_2 p287 q287
          cases e287
          replace hx287_0 := (HB.out.cell (World.block_lt_of_cell? w _ hx287_0)).trans hx287_0
          replace p287 := eq_true p287
          replace q287 := eq_true q287
          go_wp2
          go_roundg k2
          case measure => have := HJ2.out; have := HK2.out; omega
          case rel => exact ⟨(wrap64 (x6_2 + ((rdOf ByteArray.empty l1 x23_2).size : Int))), (wrap64 (x23_2 + 1)), yf, yf, H', ⟨by have := HJ2.out; have := HK2.out; omega⟩, ⟨by repeat (first | (with_reducible first | exact HB.out | apply qc | apply qa | apply qd) | exact HB.out)⟩⟩
        ·rw [if_neg c9] at H
         exact absurd H uf
       ·rw [if_neg c8] at H
        exact absurd H uf
      ·rw [if_neg c7] at H
       have c7b0 : decide (x23_2 < (l1.length : Int)) = false := decide_eq_false c7
       clear c7
       obtain ⟨y288, hy288⟩ : ∃ y_ : List Int, y_ = (([(a0) % 256] : List Int)) := ⟨_, rfl⟩
       replace H : (if x6_2 < 128 then (if y288.length < 140737488355328 then ((some (y288 ++ [(x6_2) % 256] : List Int)).bind fun y291 => ((strings_Join.f l1 (⟨#[]⟩ : ByteArray)).bind fun t294 => (if (strOfNums y291).size + t294.size ≤ 9223372036854775807 then (some ((strOfNums y291) ++ t294, 0)) else (none)))) else (none)) else (if x6_2 < 256 then ((some (([129, (x6_2) % 256] : List Int) : List Int)).bind fun y295 => (if y288.length + y295.length < 140737488355328 then ((some (y288 ++ y295 : List Int)).bind fun y298 => ((strings_Join.f l1 (⟨#[]⟩ : ByteArray)).bind fun t301 => (if (strOfNums y298).size + t301.size ≤ 9223372036854775807 then (some ((strOfNums y298) ++ t301, 0)) else (none)))) else (none))) else (if x6_2 < 65536 then ((some (([130, (x6_2 / 256) % 256, (x6_2) % 256] : List Int) : List Int)).bind fun y302 => (if y288.length + y302.length < 140737488355328 then ((some (y288 ++ y302 : List Int)).bind fun y305 => ((strings_Join.f l1 (⟨#[]⟩ : ByteArray)).bind fun t308 => (if (strOfNums y305).size + t308.size ≤ 9223372036854775807 then (some ((strOfNums y305) ++ t308, 0)) else (none)))) else (none))) else ((some (([131, (x6_2 / 65536) % 256, (x6_2 / 256) % 256, (x6_2) % 256] : List Int) : List Int)).bind fun y309 => (if y288.length + y309.length < 140737488355328 then ((some (y288 ++ y309 : List Int)).bind fun y312 => ((strings_Join.f l1 (⟨#[]⟩ : ByteArray)).bind fun t315 => (if (strOfNums y312).size + t315.size ≤ 9223372036854775807 then (some ((strOfNums y312) ++ t315, 0)) else (none)))) else (none)))))) = some (r1, r2) := by first | (rw [hy288]; with_reducible exact H) | (have H2_ := (Option.bind_some _ _).symm.trans H; rw [hy288]; with_reducible exact H2_) | (have H2_ := (Option.bind_some _ _).symm.trans H; with_reducible exact H2_) | with_reducible exact H | (rw [hy288]; exact H) | exact H
       have Ny288 := qb.mk hy288
       clear hy288
       by_cases c11 : x6_2 < 128
       ·rw [if_pos c11] at H
        have c11b0 : decide (x6_2 < 128) = true := decide_eq_true c11
        clear c11
        by_cases c12 : y288.length < 140737488355328
        ·rw [if_pos c12] at H
         have LMc12 := qb.mk c12
         clear c12
         obtain ⟨y291, hy291⟩ : ∃ y_ : List Int, y_ = (y288 ++ [(x6_2) % 256]) := ⟨_, rfl⟩
         replace H : ((strings_Join.f l1 (⟨#[]⟩ : ByteArray)).bind fun t294 => (if (strOfNums y291).size + t294.size ≤ 9223372036854775807 then (some ((strOfNums y291) ++ t294, 0)) else (none))) = some (r1, r2) := by first | (rw [hy291]; with_reducible exact H) | (have H2_ := (Option.bind_some _ _).symm.trans H; rw [hy291]; with_reducible exact H2_) | (have H2_ := (Option.bind_some _ _).symm.trans H; with_reducible exact H2_) | with_reducible exact H | (rw [hy291]; exact H) | exact H
         have Ny291 := qb.mk hy291
         clear hy291
         replace H := Option.bind_eq_some_iff.mp H
         obtain ⟨t294, A130, H⟩ := H
         replace H : (if (strOfNums y291).size + t294.size ≤ 9223372036854775807 then (some ((strOfNums y291) ++ t294, 0)) else (none)) = some (r1, r2) := H
         have A13 := qb.mk A130
         clear A130
         by_cases c14 : (strOfNums y291).size + t294.size ≤ 9223372036854775807
         ·rw [if_pos c14] at H
          have c14b0 := eq_true c14
          have c14b1 : decide ((strOfNums y291).size + t294.size ≤ 9223372036854775807) = true := decide_eq_true c14
          try have c14b2 : (9223372036854775807 < (strOfNums y291).size + t294.size) = False := eq_false (Nat.not_lt.2 c14)
          simp only [Option.some.injEq, Prod.mk.injEq] at H
          obtain ⟨rfl, rfl⟩ := H
          try go_wp2_with (first | ((with_reducible refine zm (N := 39) rfl ?_); refine Kd.jz (Kd.int .u8) _ 5 ?hg (N := 39) ?hd (xs := ([(a0) % 256] : List Int)) (inner := [.int .u8 ((a0) % 256)]) (ok := fun _ => True) (okp := fun _ => True) ?hr ?hp (fun _ hk => hk) trivial (Below.refl _ _) (Nat.le_refl _) uf ?_; (case hd => rfl); (case hg => rfl); (case hr => first | (go_simp; done) | (go_simp; rfl)); (case hp => exact (Reps.one (show Kd.M (Kd.int .u8) _ _ _ ((a0) % 256) [.int .u8 ((a0) % 256)] from rfl) (Reps.none _ _))); intro v289 w15 ho16 hb hg_ hnew_; clear hg_ hnew_; (first | rw [← Ny288.out] at ho16 | (simp only [Int.reduceToNat] at ho16; rw [← Ny288.out] at ho16)); have n0_ := qb.mk (Kd.kn ho16 (qp cu)); have n1_ := qb.mk (qm cu hb); clear HB; have HO290 := n0_; have HB := n1_; clear n0_ n1_; clear hb ho16) | ((with_reducible refine xp (b := .append) (xs := #[.tmp 54, .tmp 57]) rfl ?_); at_builtin; refine Kd.k9 (Kd.int .u8) (w0 := w) w.heap.size rfl (.tmp 54) (.tmp 57) 59 5 (.int .u8 0) 1 rfl Tryz.underlying59 info5 rfl (by decide) yg v289 y288 ((x6_2) % 256) [.int .u8 ((x6_2) % 256)] (fun _ => True) (fun _ => False) rfl rfl ?aP (fun _ hk => hk.elim) ?aF ?aO ?aB ?aS ?aL ?_; (case aP => exact rfl); (case aB => exact cu); (case aF => exact (fun _ _ => trivial)); (case aO => exact caj); (case aS => exact (qp cu)); (case aL => have := LMc12.out; omega); intro v292 w17 ho hb hg hat; rw [← Ny291.out] at ho; have n0_ := qb.mk (hb); have n1_ := qb.mk (ho); clear HB; clear HO290; have HB := n0_; have HO293 := n1_; clear n0_ n1_; clear ho hb hg hat))
          have n0_ := qb.mk (Kd.qz HO293.out)
          have n1_ := qb.mk (qd HB.out)
          clear HO293
          clear HB
          have HO293 := n0_
          have HB := n1_
          clear n0_ n1_
          have hcv19 := jd (P := Tryz.prog) Tryz.underlying59 Tryz.underlying5 Tryz.underlying9 (Kd.jl HO293.out)
          refine start_ (n := 7) (S := fun w' => Sem.run Tryz.prog (convert 59 9 v292) w' = .ok (.string (strOfNums y291)) w') (ds := []) #[false, false, false, false, false, false, false] yh rfl rfl hcv19 (fun hHeld => ?_)
          generalize w17.drew = w18 at HO293 HB hHeld ⊢
          refine xq (i := 0) (N := some 78) (v := ?_) (a' := ?_) #[true, false, false, false, false, false, false] rfl rfl yh (fun _ _ _ h => h) (Or.inl ⟨by rfl, ?_⟩) ?_ ?_
          rotate_left
          ·intro w'
           go_simp
           with_reducible rfl
          rotate_left
          ·simp only [Act.put, List.setIfInBounds_toArray, List.set_cons_zero, List.set_cons_succ, zo, zr]
           rfl
          refine take_ (i := 1) (N := some 79) (v := ?_) (a' := ?_) #[true, true, false, false, false, false, false] rfl rfl yh (fun _ _ _ h => h) (Or.inl ⟨by rfl, ?_⟩) hHeld ?_ ?_
          rotate_left
          ·rintro w' s0
           go_simp
           with_reducible rfl
          rotate_left
          ·simp only [Act.put, List.setIfInBounds_toArray, List.set_cons_zero, List.set_cons_succ, zo, zr]
           rfl
          refine xq (i := 2) (N := some 80) (v := ?_) (a' := ?_) #[true, true, true, false, false, false, false] rfl rfl yh (fun _ _ _ h => h) (Or.inl ⟨by rfl, ?_⟩) ?_ ?_
          rotate_left
          ·intro w'
           go_simp
           with_reducible rfl
          rotate_left
          ·simp only [Act.put, List.setIfInBounds_toArray, List.set_cons_zero, List.set_cons_succ, zo, zr]
           rfl
          refine one_ (i := 3) (N := some 81) #[true, true, true, true, false, false, false] rfl rfl yh (by decide) (fun K hK => ?_)
          refine goes_ Tryz.func53 yh rfl #[.slice A1 l1.length c1, .string (⟨#[]⟩ : ByteArray)] (by rfl) rfl rfl cz ?_
          with_reducible refine (strings_Join.calls _ _ l1 (⟨#[]⟩ : ByteArray) t294 _ ?side1 ?side2 A13.out).mono ?_
          (case side1 => repeat (first | exact (Kd.xv HR1.out HB.out) | (with_reducible refine Kd.xr ?_ _) | (with_reducible refine Kd.xt ?_ _) | (with_reducible refine Kd.kp ?_)))
          (case side2 => exact HC1.out)
          rintro e w20 ⟨rfl, hb⟩
          refine ⟨_, rfl, ?_⟩
          have n0_ := qb.mk (Kd.z8 (by (with_reducible repeat (first | apply Kd.qw | apply Kd.qv | apply Kd.qz)); exact HO293.out) hb)
          have n1_ := qb.mk (qm cu hb)
          clear HO293
          clear HB
          have HO293 := n0_
          have HB := n1_
          clear n0_ n1_
          (try clear hb)
          (try clear hb2)
          (try clear hk)
          (try clear hi)
          refine hK.out _ _ (jd (P := Tryz.prog) Tryz.underlying59 Tryz.underlying5 Tryz.underlying9 (Kd.jl HO293.out)) (fun hHeld => ?_)
          clear hK K
          refine jn (a' := ?_) ?_ ?_
          rotate_left
          ·show Act.put _ (some 81) _ = _
           simp only [Act.put, List.setIfInBounds_toArray, List.set_cons_zero, List.set_cons_succ, zo, zr]
           rfl
          refine xq (i := 4) (N := some 82) (v := ?_) (a' := ?_) #[true, true, true, true, true, false, false] rfl rfl yh (fun _ _ _ h => h) (Or.inl ⟨by rfl, ?_⟩) ?_ ?_
          rotate_left
          ·intro w'
           go_simp
           with_reducible rfl
          rotate_left
          ·simp only [Act.put, List.setIfInBounds_toArray, List.set_cons_zero, List.set_cons_succ, zo, zr]
           rfl
          refine xq (i := 5) (N := some 4) (v := ?_) (a' := ?_) #[true, true, true, true, true, true, false] rfl rfl yh (fun _ _ _ h => h) (Or.inl ⟨by rfl, ?_⟩) ?_ ?_
          rotate_left
          ·intro w'
           go_simp
           with_reducible rfl
          rotate_left
          ·simp only [Act.put, List.setIfInBounds_toArray, List.set_cons_zero, List.set_cons_succ, zo, zr]
           rfl
          refine xq (i := 6) (N := some 5) (v := ?_) (a' := ?_) #[true, true, true, true, true, true, true] rfl rfl yh (fun _ _ _ h => h) (Or.inl ⟨by rfl, ?_⟩) ?_ ?_
          rotate_left
          ·intro w'
           go_simp
           with_reducible rfl
          rotate_left
          ·simp only [Act.put, List.setIfInBounds_toArray, List.set_cons_zero, List.set_cons_succ, zo, zr]
           rfl
          refine done_ yh ?_
          try go_wp2
          go_ret2
          exact ⟨by first | rfl | (simp [qt, qu] <;> rfl) | (simp [*, qt, qu] <;> rfl), by repeat (first | (with_reducible first | exact HB.out | apply qc | apply qa | apply qd) | exact HB.out)⟩
         ·rw [if_neg c14] at H
          exact absurd H uf
        ·rw [if_neg c12] at H
         exact absurd H uf
       ·rw [if_neg c11] at H
        have c11b0 : decide (x6_2 < 128) = false := decide_eq_false c11
        clear c11
        by_cases c22 : x6_2 < 256
        ·rw [if_pos c22] at H
         have c22b0 : decide (x6_2 < 256) = true := decide_eq_true c22
         clear c22
         obtain ⟨y295, hy295⟩ : ∃ y_ : List Int, y_ = (([129, (x6_2) % 256] : List Int)) := ⟨_, rfl⟩
         replace H : (if y288.length + y295.length < 140737488355328 then ((some (y288 ++ y295 : List Int)).bind fun y298 => ((strings_Join.f l1 (⟨#[]⟩ : ByteArray)).bind fun t301 => (if (strOfNums y298).size + t301.size ≤ 9223372036854775807 then (some ((strOfNums y298) ++ t301, 0)) else (none)))) else (none)) = some (r1, r2) := by first | (rw [hy295]; with_reducible exact H) | (have H2_ := (Option.bind_some _ _).symm.trans H; rw [hy295]; with_reducible exact H2_) | (have H2_ := (Option.bind_some _ _).symm.trans H; with_reducible exact H2_) | with_reducible exact H | (rw [hy295]; exact H) | exact H
         have Ny295 := qb.mk hy295
         clear hy295
         by_cases c23 : y288.length + y295.length < 140737488355328
         ·rw [if_pos c23] at H
          have LMc23 := qb.mk c23
          clear c23
          obtain ⟨y298, hy298⟩ : ∃ y_ : List Int, y_ = (y288 ++ y295) := ⟨_, rfl⟩
          replace H : ((strings_Join.f l1 (⟨#[]⟩ : ByteArray)).bind fun t301 => (if (strOfNums y298).size + t301.size ≤ 9223372036854775807 then (some ((strOfNums y298) ++ t301, 0)) else (none))) = some (r1, r2) := by first | (rw [hy298]; with_reducible exact H) | (have H2_ := (Option.bind_some _ _).symm.trans H; rw [hy298]; with_reducible exact H2_) | (have H2_ := (Option.bind_some _ _).symm.trans H; with_reducible exact H2_) | with_reducible exact H | (rw [hy298]; exact H) | exact H
          have Ny298 := qb.mk hy298
          clear hy298
          replace H := Option.bind_eq_some_iff.mp H
          obtain ⟨t301, A240, H⟩ := H
          replace H : (if (strOfNums y298).size + t301.size ≤ 9223372036854775807 then (some ((strOfNums y298) ++ t301, 0)) else (none)) = some (r1, r2) := H
          have A24 := qb.mk A240
          clear A240
          by_cases c25 : (strOfNums y298).size + t301.size ≤ 9223372036854775807
          ·rw [if_pos c25] at H
           have c25b0 := eq_true c25
           have c25b1 : decide ((strOfNums y298).size + t301.size ≤ 9223372036854775807) = true := decide_eq_true c25
           try have c25b2 : (9223372036854775807 < (strOfNums y298).size + t301.size) = False := eq_false (Nat.not_lt.2 c25)
           simp only [Option.some.injEq, Prod.mk.injEq] at H
           obtain ⟨rfl, rfl⟩ := H
           try go_wp2_with (first | ((with_reducible refine zm (N := 39) rfl ?_); refine Kd.jz (Kd.int .u8) _ 5 ?hg (N := 39) ?hd (xs := ([(a0) % 256] : List Int)) (inner := [.int .u8 ((a0) % 256)]) (ok := fun _ => True) (okp := fun _ => True) ?hr ?hp (fun _ hk => hk) trivial (Below.refl _ _) (Nat.le_refl _) uf ?_; (case hd => rfl); (case hg => rfl); (case hr => first | (go_simp; done) | (go_simp; rfl)); (case hp => exact (Reps.one (show Kd.M (Kd.int .u8) _ _ _ ((a0) % 256) [.int .u8 ((a0) % 256)] from rfl) (Reps.none _ _))); intro v289 w26 ho27 hb hg_ hnew_; clear hg_ hnew_; (first | rw [← Ny288.out] at ho27 | (simp only [Int.reduceToNat] at ho27; rw [← Ny288.out] at ho27)); have n0_ := qb.mk (Kd.kn ho27 (qp cu)); have n1_ := qb.mk (qm cu hb); clear HB; have HO290 := n0_; have HB := n1_; clear n0_ n1_; clear hb ho27) | ((with_reducible refine zm (N := 65) rfl ?_); refine Kd.jz (Kd.int .u8) _ 5 ?hg (N := 65) ?hd (xs := ([129, (x6_2) % 256] : List Int)) (inner := [.int .u8 129, .int .u8 ((x6_2) % 256)]) (ok := fun _ => True) (okp := fun _ => True) ?hr ?hp (fun _ hk => hk) trivial (Below.refl _ _) (Nat.le_refl _) uf ?_; (case hd => rfl); (case hg => rfl); (case hr => first | (go_simp; done) | (go_simp; rfl)); (case hp => exact (Reps.one (show Kd.M (Kd.int .u8) _ _ _ 129 [.int .u8 129] from rfl) (Reps.one (show Kd.M (Kd.int .u8) _ _ _ ((x6_2) % 256) [.int .u8 ((x6_2) % 256)] from rfl) (Reps.none _ _)))); intro v296 w28 ho29 hb hg_ hnew_; clear hg_ hnew_; (first | rw [← Ny295.out] at ho29 | (simp only [Int.reduceToNat] at ho29; rw [← Ny295.out] at ho29)); have n0_ := qb.mk (Kd.k6 caj (Kd.je ho29) hb); have n1_ := qb.mk (Kd.kn (Kd.jm ho29 (Kd.R_lt caj)) (qp cu)); have n2_ := qb.mk (qm cu hb); clear HO290; clear HB; have HO290 := n0_; have HO297 := n1_; have HB := n2_; clear n0_ n1_ n2_; clear hb ho29; obtain ⟨Ao31, co31, eo31⟩ := Kd.xo HO297.out; subst eo31) | ((with_reducible refine xp (b := .append) (xs := #[.tmp 62, .tmp 65]) rfl ?_); at_builtin; refine Kd.vk (Kd.int .u8) (w0 := w) w.heap.size rfl (.tmp 62) (.tmp 65) 59 5 (.int .u8 0) 1 rfl Tryz.underlying59 info5 rfl (by decide) yg v289 y288 y295 _ _ _ (fun k_ => some k_ ≠ (.slice Ao31 y295.length co31 : Value).ownBlock) (fun _ => False) rfl rfl ?aO ?aR (fun _ _ h => h) (fun _ h => h.elim) ?aF ?aB ?aS ?aL ?_; (case aR => repeat (first | exact (Kd.zq HO297.out).2.2 | (with_reducible refine Kd.xr ?_ _) | (with_reducible refine Kd.xt ?_ _) | (with_reducible refine Kd.kp ?_))); (case aB => exact cu); (case aF => exact (fun k_ hk => Kd.fresh' (Kd.R_lt cbe) k_ hk)); (case aO => exact (by (with_reducible repeat (first | apply Kd.qw | apply Kd.qv | apply Kd.qz)); exact Kd.xn HO290.out (fun _ hk => hk.2))); (case aS => exact (qp cu)); (case aL => have := LMc23.out; omega); intro v299 w30 ho hb hg hat; rw [← Ny298.out] at ho; have n0_ := qb.mk (Kd.jy (ok := (fun _ => True)) cbe hg hat); have n1_ := qb.mk (hb); have n2_ := qb.mk (ho); clear HO297; clear HB; clear HO290; have HO297 := n0_; have HB := n1_; have HO300 := n2_; clear n0_ n1_ n2_; clear ho hb hg hat))
           have n0_ := qb.mk (Kd.qz HO297.out)
           have n1_ := qb.mk (Kd.qz HO300.out)
           have n2_ := qb.mk (qd HB.out)
           clear HO297
           clear HO300
           clear HB
           have HO297 := n0_
           have HO300 := n1_
           have HB := n2_
           clear n0_ n1_ n2_
           have hcv33 := jd (P := Tryz.prog) Tryz.underlying59 Tryz.underlying5 Tryz.underlying9 (Kd.jl HO300.out)
           refine start_ (n := 7) (S := fun w' => Sem.run Tryz.prog (convert 59 9 v299) w' = .ok (.string (strOfNums y298)) w') (ds := []) #[false, false, false, false, false, false, false] yh rfl rfl hcv33 (fun hHeld => ?_)
           generalize w30.drew = w32 at HO297 HO300 HB hHeld ⊢
           refine xq (i := 0) (N := some 78) (v := ?_) (a' := ?_) #[true, false, false, false, false, false, false] rfl rfl yh (fun _ _ _ h => h) (Or.inl ⟨by rfl, ?_⟩) ?_ ?_
           rotate_left
           ·intro w'
            go_simp
            with_reducible rfl
           rotate_left
           ·simp only [Act.put, List.setIfInBounds_toArray, List.set_cons_zero, List.set_cons_succ, zo, zr]
            rfl
           refine take_ (i := 1) (N := some 79) (v := ?_) (a' := ?_) #[true, true, false, false, false, false, false] rfl rfl yh (fun _ _ _ h => h) (Or.inl ⟨by rfl, ?_⟩) hHeld ?_ ?_
           rotate_left
           ·rintro w' s0
            go_simp
            with_reducible rfl
           rotate_left
           ·simp only [Act.put, List.setIfInBounds_toArray, List.set_cons_zero, List.set_cons_succ, zo, zr]
            rfl
           refine xq (i := 2) (N := some 80) (v := ?_) (a' := ?_) #[true, true, true, false, false, false, false] rfl rfl yh (fun _ _ _ h => h) (Or.inl ⟨by rfl, ?_⟩) ?_ ?_
           rotate_left
           ·intro w'
            go_simp
            with_reducible rfl
           rotate_left
           ·simp only [Act.put, List.setIfInBounds_toArray, List.set_cons_zero, List.set_cons_succ, zo, zr]
            rfl
           refine one_ (i := 3) (N := some 81) #[true, true, true, true, false, false, false] rfl rfl yh (by decide) (fun K hK => ?_)
           refine goes_ Tryz.func53 yh rfl #[.slice A1 l1.length c1, .string (⟨#[]⟩ : ByteArray)] (by rfl) rfl rfl cz ?_
           with_reducible refine (strings_Join.calls _ _ l1 (⟨#[]⟩ : ByteArray) t301 _ ?side1 ?side2 A24.out).mono ?_
           (case side1 => repeat (first | exact (Kd.xv HR1.out HB.out) | (with_reducible refine Kd.xr ?_ _) | (with_reducible refine Kd.xt ?_ _) | (with_reducible refine Kd.kp ?_)))
           (case side2 => exact HC1.out)
           rintro e w34 ⟨rfl, hb⟩
           refine ⟨_, rfl, ?_⟩
           have n0_ := qb.mk (Kd.z8 cbe hb)
           have n1_ := qb.mk (Kd.z8 (by (with_reducible repeat (first | apply Kd.qw | apply Kd.qv | apply Kd.qz)); exact HO300.out) hb)
           have n2_ := qb.mk (qm cu hb)
           clear HO297
           clear HO300
           clear HB
           have HO297 := n0_
           have HO300 := n1_
           have HB := n2_
           clear n0_ n1_ n2_
           (try clear hb)
           (try clear hb2)
           (try clear hk)
           (try clear hi)
           refine hK.out _ _ (jd (P := Tryz.prog) Tryz.underlying59 Tryz.underlying5 Tryz.underlying9 (Kd.jl HO300.out)) (fun hHeld => ?_)
           clear hK K
           refine jn (a' := ?_) ?_ ?_
           rotate_left
           ·show Act.put _ (some 81) _ = _
            simp only [Act.put, List.setIfInBounds_toArray, List.set_cons_zero, List.set_cons_succ, zo, zr]
            rfl
           refine xq (i := 4) (N := some 82) (v := ?_) (a' := ?_) #[true, true, true, true, true, false, false] rfl rfl yh (fun _ _ _ h => h) (Or.inl ⟨by rfl, ?_⟩) ?_ ?_
           rotate_left
           ·intro w'
            go_simp
            with_reducible rfl
           rotate_left
           ·simp only [Act.put, List.setIfInBounds_toArray, List.set_cons_zero, List.set_cons_succ, zo, zr]
            rfl
           refine xq (i := 5) (N := some 4) (v := ?_) (a' := ?_) #[true, true, true, true, true, true, false] rfl rfl yh (fun _ _ _ h => h) (Or.inl ⟨by rfl, ?_⟩) ?_ ?_
           rotate_left
           ·intro w'
            go_simp
            with_reducible rfl
           rotate_left
           ·simp only [Act.put, List.setIfInBounds_toArray, List.set_cons_zero, List.set_cons_succ, zo, zr]
            rfl
           refine xq (i := 6) (N := some 5) (v := ?_) (a' := ?_) #[true, true, true, true, true, true, true] rfl rfl yh (fun _ _ _ h => h) (Or.inl ⟨by rfl, ?_⟩) ?_ ?_
           rotate_left
           ·intro w'
            go_simp
            with_reducible rfl
           rotate_left
           ·simp only [Act.put, List.setIfInBounds_toArray, List.set_cons_zero, List.set_cons_succ, zo, zr]
            rfl
           refine done_ yh ?_
           try go_wp2
           go_ret2
           exact ⟨by first | rfl | (simp [qt, qu] <;> rfl) | (simp [*, qt, qu] <;> rfl), by repeat (first | (with_reducible first | exact HB.out | apply qc | apply qa | apply qd) | exact HB.out)⟩
          ·rw [if_neg c25] at H
           exact absurd H uf
         ·rw [if_neg c23] at H
          exact absurd H uf
        ·rw [if_neg c22] at H
         have c22b0 : decide (x6_2 < 256) = false := decide_eq_false c22
         clear c22
         by_cases c36 : x6_2 < 65536
         ·rw [if_pos c36] at H
          have c36b0 : decide (x6_2 < 65536) = true := decide_eq_true c36
          clear c36
          obtain ⟨y302, hy302⟩ : ∃ y_ : List Int, y_ = (([130, (x6_2 / 256) % 256, (x6_2) % 256] : List Int)) := ⟨_, rfl⟩
          replace H : (if y288.length + y302.length < 140737488355328 then ((some (y288 ++ y302 : List Int)).bind fun y305 => ((strings_Join.f l1 (⟨#[]⟩ : ByteArray)).bind fun t308 => (if (strOfNums y305).size + t308.size ≤ 9223372036854775807 then (some ((strOfNums y305) ++ t308, 0)) else (none)))) else (none)) = some (r1, r2) := by first | (rw [hy302]; with_reducible exact H) | (have H2_ := (Option.bind_some _ _).symm.trans H; rw [hy302]; with_reducible exact H2_) | (have H2_ := (Option.bind_some _ _).symm.trans H; with_reducible exact H2_) | with_reducible exact H | (rw [hy302]; exact H) | exact H
          have Ny302 := qb.mk hy302
          clear hy302
          by_cases c37 : y288.length + y302.length < 140737488355328
          ·rw [if_pos c37] at H
           have LMc37 := qb.mk c37
           clear c37
           obtain ⟨y305, hy305⟩ : ∃ y_ : List Int, y_ = (y288 ++ y302) := ⟨_, rfl⟩
           replace H : ((strings_Join.f l1 (⟨#[]⟩ : ByteArray)).bind fun t308 => (if (strOfNums y305).size + t308.size ≤ 9223372036854775807 then (some ((strOfNums y305) ++ t308, 0)) else (none))) = some (r1, r2) := by first | (rw [hy305]; with_reducible exact H) | (have H2_ := (Option.bind_some _ _).symm.trans H; rw [hy305]; with_reducible exact H2_) | (have H2_ := (Option.bind_some _ _).symm.trans H; with_reducible exact H2_) | with_reducible exact H | (rw [hy305]; exact H) | exact H
           have Ny305 := qb.mk hy305
           clear hy305
           replace H := Option.bind_eq_some_iff.mp H
           obtain ⟨t308, A380, H⟩ := H
           replace H : (if (strOfNums y305).size + t308.size ≤ 9223372036854775807 then (some ((strOfNums y305) ++ t308, 0)) else (none)) = some (r1, r2) := H
           have A38 := qb.mk A380
           clear A380
           by_cases c39 : (strOfNums y305).size + t308.size ≤ 9223372036854775807
           ·rw [if_pos c39] at H
            have c39b0 := eq_true c39
            have c39b1 : decide ((strOfNums y305).size + t308.size ≤ 9223372036854775807) = true := decide_eq_true c39
            try have c39b2 : (9223372036854775807 < (strOfNums y305).size + t308.size) = False := eq_false (Nat.not_lt.2 c39)
            simp only [Option.some.injEq, Prod.mk.injEq] at H
            obtain ⟨rfl, rfl⟩ := H
            try go_wp2_with (first | ((with_reducible refine zm (N := 39) rfl ?_); refine Kd.jz (Kd.int .u8) _ 5 ?hg (N := 39) ?hd (xs := ([(a0) % 256] : List Int)) (inner := [.int .u8 ((a0) % 256)]) (ok := fun _ => True) (okp := fun _ => True) ?hr ?hp (fun _ hk => hk) trivial (Below.refl _ _) (Nat.le_refl _) uf ?_; (case hd => rfl); (case hg => rfl); (case hr => first | (go_simp; done) | (go_simp; rfl)); (case hp => exact (Reps.one (show Kd.M (Kd.int .u8) _ _ _ ((a0) % 256) [.int .u8 ((a0) % 256)] from rfl) (Reps.none _ _))); intro v289 w40 ho41 hb hg_ hnew_; clear hg_ hnew_; (first | rw [← Ny288.out] at ho41 | (simp only [Int.reduceToNat] at ho41; rw [← Ny288.out] at ho41)); have n0_ := qb.mk (Kd.kn ho41 (qp cu)); have n1_ := qb.mk (qm cu hb); clear HB; have HO290 := n0_; have HB := n1_; clear n0_ n1_; clear hb ho41) | ((with_reducible refine zm (N := 76) rfl ?_); refine Kd.jz (Kd.int .u8) _ 5 ?hg (N := 76) ?hd (xs := ([130, (x6_2 / 256) % 256, (x6_2) % 256] : List Int)) (inner := [.int .u8 130, .int .u8 ((x6_2 / 256) % 256), .int .u8 ((x6_2) % 256)]) (ok := fun _ => True) (okp := fun _ => True) ?hr ?hp (fun _ hk => hk) trivial (Below.refl _ _) (Nat.le_refl _) uf ?_; (case hd => rfl); (case hg => rfl); (case hr => first | (go_simp; done) | (go_simp; rfl)); (case hp => exact (Reps.one (show Kd.M (Kd.int .u8) _ _ _ 130 [.int .u8 130] from rfl) (Reps.one (show Kd.M (Kd.int .u8) _ _ _ ((x6_2 / 256) % 256) [.int .u8 ((x6_2 / 256) % 256)] from rfl) (Reps.one (show Kd.M (Kd.int .u8) _ _ _ ((x6_2) % 256) [.int .u8 ((x6_2) % 256)] from rfl) (Reps.none _ _))))); intro v303 w42 ho43 hb hg_ hnew_; clear hg_ hnew_; (first | rw [← Ny302.out] at ho43 | (simp only [Int.reduceToNat] at ho43; rw [← Ny302.out] at ho43)); have n0_ := qb.mk (Kd.k6 caj (Kd.je ho43) hb); have n1_ := qb.mk (Kd.kn (Kd.jm ho43 (Kd.R_lt caj)) (qp cu)); have n2_ := qb.mk (qm cu hb); clear HO290; clear HB; have HO290 := n0_; have HO304 := n1_; have HB := n2_; clear n0_ n1_ n2_; clear hb ho43; obtain ⟨Ao45, co45, eo45⟩ := Kd.xo HO304.out; subst eo45) | ((with_reducible refine xp (b := .append) (xs := #[.tmp 70, .tmp 76]) rfl ?_); at_builtin; refine Kd.vk (Kd.int .u8) (w0 := w) w.heap.size rfl (.tmp 70) (.tmp 76) 59 5 (.int .u8 0) 1 rfl Tryz.underlying59 info5 rfl (by decide) yg v289 y288 y302 _ _ _ (fun k_ => some k_ ≠ (.slice Ao45 y302.length co45 : Value).ownBlock) (fun _ => False) rfl rfl ?aO ?aR (fun _ _ h => h) (fun _ h => h.elim) ?aF ?aB ?aS ?aL ?_; (case aR => repeat (first | exact (Kd.zq HO304.out).2.2 | (with_reducible refine Kd.xr ?_ _) | (with_reducible refine Kd.xt ?_ _) | (with_reducible refine Kd.kp ?_))); (case aB => exact cu); (case aF => exact (fun k_ hk => Kd.fresh' (Kd.R_lt cbd) k_ hk)); (case aO => exact (by (with_reducible repeat (first | apply Kd.qw | apply Kd.qv | apply Kd.qz)); exact Kd.xn HO290.out (fun _ hk => hk.2))); (case aS => exact (qp cu)); (case aL => have := LMc37.out; omega); intro v306 w44 ho hb hg hat; rw [← Ny305.out] at ho; have n0_ := qb.mk (Kd.jy (ok := (fun _ => True)) cbd hg hat); have n1_ := qb.mk (hb); have n2_ := qb.mk (ho); clear HO304; clear HB; clear HO290; have HO304 := n0_; have HB := n1_; have HO307 := n2_; clear n0_ n1_ n2_; clear ho hb hg hat))
            have n0_ := qb.mk (Kd.qz HO304.out)
            have n1_ := qb.mk (Kd.qz HO307.out)
            have n2_ := qb.mk (qd HB.out)
            clear HO304
            clear HO307
            clear HB
            have HO304 := n0_
            have HO307 := n1_
            have HB := n2_
            clear n0_ n1_ n2_
            have hcv47 := jd (P := Tryz.prog) Tryz.underlying59 Tryz.underlying5 Tryz.underlying9 (Kd.jl HO307.out)
            refine start_ (n := 7) (S := fun w' => Sem.run Tryz.prog (convert 59 9 v306) w' = .ok (.string (strOfNums y305)) w') (ds := []) #[false, false, false, false, false, false, false] yh rfl rfl hcv47 (fun hHeld => ?_)
            generalize w44.drew = w46 at HO304 HO307 HB hHeld ⊢
            refine xq (i := 0) (N := some 78) (v := ?_) (a' := ?_) #[true, false, false, false, false, false, false] rfl rfl yh (fun _ _ _ h => h) (Or.inl ⟨by rfl, ?_⟩) ?_ ?_
            rotate_left
            ·intro w'
             go_simp
             with_reducible rfl
            rotate_left
            ·simp only [Act.put, List.setIfInBounds_toArray, List.set_cons_zero, List.set_cons_succ, zo, zr]
             rfl
            refine take_ (i := 1) (N := some 79) (v := ?_) (a' := ?_) #[true, true, false, false, false, false, false] rfl rfl yh (fun _ _ _ h => h) (Or.inl ⟨by rfl, ?_⟩) hHeld ?_ ?_
            rotate_left
            ·rintro w' s0
             go_simp
             with_reducible rfl
            rotate_left
            ·simp only [Act.put, List.setIfInBounds_toArray, List.set_cons_zero, List.set_cons_succ, zo, zr]
             rfl
            refine xq (i := 2) (N := some 80) (v := ?_) (a' := ?_) #[true, true, true, false, false, false, false] rfl rfl yh (fun _ _ _ h => h) (Or.inl ⟨by rfl, ?_⟩) ?_ ?_
            rotate_left
            ·intro w'
             go_simp
             with_reducible rfl
            rotate_left
            ·simp only [Act.put, List.setIfInBounds_toArray, List.set_cons_zero, List.set_cons_succ, zo, zr]
             rfl
            refine one_ (i := 3) (N := some 81) #[true, true, true, true, false, false, false] rfl rfl yh (by decide) (fun K hK => ?_)
            refine goes_ Tryz.func53 yh rfl #[.slice A1 l1.length c1, .string (⟨#[]⟩ : ByteArray)] (by rfl) rfl rfl cz ?_
            with_reducible refine (strings_Join.calls _ _ l1 (⟨#[]⟩ : ByteArray) t308 _ ?side1 ?side2 A38.out).mono ?_
            (case side1 => repeat (first | exact (Kd.xv HR1.out HB.out) | (with_reducible refine Kd.xr ?_ _) | (with_reducible refine Kd.xt ?_ _) | (with_reducible refine Kd.kp ?_)))
            (case side2 => exact HC1.out)
            rintro e w48 ⟨rfl, hb⟩
            refine ⟨_, rfl, ?_⟩
            have n0_ := qb.mk (Kd.z8 cbd hb)
            have n1_ := qb.mk (Kd.z8 (by (with_reducible repeat (first | apply Kd.qw | apply Kd.qv | apply Kd.qz)); exact HO307.out) hb)
            have n2_ := qb.mk (qm cu hb)
            clear HO304
            clear HO307
            clear HB
            have HO304 := n0_
            have HO307 := n1_
            have HB := n2_
            clear n0_ n1_ n2_
            (try clear hb)
            (try clear hb2)
            (try clear hk)
            (try clear hi)
            refine hK.out _ _ (jd (P := Tryz.prog) Tryz.underlying59 Tryz.underlying5 Tryz.underlying9 (Kd.jl HO307.out)) (fun hHeld => ?_)
            clear hK K
            refine jn (a' := ?_) ?_ ?_
            rotate_left
            ·show Act.put _ (some 81) _ = _
             simp only [Act.put, List.setIfInBounds_toArray, List.set_cons_zero, List.set_cons_succ, zo, zr]
             rfl
            refine xq (i := 4) (N := some 82) (v := ?_) (a' := ?_) #[true, true, true, true, true, false, false] rfl rfl yh (fun _ _ _ h => h) (Or.inl ⟨by rfl, ?_⟩) ?_ ?_
            rotate_left
            ·intro w'
             go_simp
             with_reducible rfl
            rotate_left
            ·simp only [Act.put, List.setIfInBounds_toArray, List.set_cons_zero, List.set_cons_succ, zo, zr]
             rfl
            refine xq (i := 5) (N := some 4) (v := ?_) (a' := ?_) #[true, true, true, true, true, true, false] rfl rfl yh (fun _ _ _ h => h) (Or.inl ⟨by rfl, ?_⟩) ?_ ?_
            rotate_left
            ·intro w'
             go_simp
             with_reducible rfl
            rotate_left
            ·simp only [Act.put, List.setIfInBounds_toArray, List.set_cons_zero, List.set_cons_succ, zo, zr]
             rfl
            refine xq (i := 6) (N := some 5) (v := ?_) (a' := ?_) #[true, true, true, true, true, true, true] rfl rfl yh (fun _ _ _ h => h) (Or.inl ⟨by rfl, ?_⟩) ?_ ?_
            rotate_left
            ·intro w'
             go_simp
             with_reducible rfl
            rotate_left
            ·simp only [Act.put, List.setIfInBounds_toArray, List.set_cons_zero, List.set_cons_succ, zo, zr]
             rfl
            refine done_ yh ?_
            try go_wp2
            go_ret2
            exact ⟨by first | rfl | (simp [qt, qu] <;> rfl) | (simp [*, qt, qu] <;> rfl), by repeat (first | (with_reducible first | exact HB.out | apply qc | apply qa | apply qd) | exact HB.out)⟩
           ·rw [if_neg c39] at H
            exact absurd H uf
          ·rw [if_neg c37] at H
           exact absurd H uf
         ·rw [if_neg c36] at H
          have c36b0 : decide (x6_2 < 65536) = false := decide_eq_false c36
          clear c36
          obtain ⟨y309, hy309⟩ : ∃ y_ : List Int, y_ = (([131, (x6_2 / 65536) % 256, (x6_2 / 256) % 256, (x6_2) % 256] : List Int)) := ⟨_, rfl⟩
          replace H : (if y288.length + y309.length < 140737488355328 then ((some (y288 ++ y309 : List Int)).bind fun y312 => ((strings_Join.f l1 (⟨#[]⟩ : ByteArray)).bind fun t315 => (if (strOfNums y312).size + t315.size ≤ 9223372036854775807 then (some ((strOfNums y312) ++ t315, 0)) else (none)))) else (none)) = some (r1, r2) := by first | (rw [hy309]; with_reducible exact H) | (have H2_ := (Option.bind_some _ _).symm.trans H; rw [hy309]; with_reducible exact H2_) | (have H2_ := (Option.bind_some _ _).symm.trans H; with_reducible exact H2_) | with_reducible exact H | (rw [hy309]; exact H) | exact H
          have Ny309 := qb.mk hy309
          clear hy309
          by_cases c50 : y288.length + y309.length < 140737488355328
          ·rw [if_pos c50] at H
           have LMc50 := qb.mk c50
           clear c50
           obtain ⟨y312, hy312⟩ : ∃ y_ : List Int, y_ = (y288 ++ y309) := ⟨_, rfl⟩
           replace H : ((strings_Join.f l1 (⟨#[]⟩ : ByteArray)).bind fun t315 => (if (strOfNums y312).size + t315.size ≤ 9223372036854775807 then (some ((strOfNums y312) ++ t315, 0)) else (none))) = some (r1, r2) := by first | (rw [hy312]; with_reducible exact H) | (have H2_ := (Option.bind_some _ _).symm.trans H; rw [hy312]; with_reducible exact H2_) | (have H2_ := (Option.bind_some _ _).symm.trans H; with_reducible exact H2_) | with_reducible exact H | (rw [hy312]; exact H) | exact H
           have Ny312 := qb.mk hy312
           clear hy312
           replace H := Option.bind_eq_some_iff.mp H
           obtain ⟨t315, A510, H⟩ := H
           replace H : (if (strOfNums y312).size + t315.size ≤ 9223372036854775807 then (some ((strOfNums y312) ++ t315, 0)) else (none)) = some (r1, r2) := H
           have A51 := qb.mk A510
           clear A510
           by_cases c52 : (strOfNums y312).size + t315.size ≤ 9223372036854775807
           ·rw [if_pos c52] at H
            have c52b0 := eq_true c52
            have c52b1 : decide ((strOfNums y312).size + t315.size ≤ 9223372036854775807) = true := decide_eq_true c52
            try have c52b2 : (9223372036854775807 < (strOfNums y312).size + t315.size) = False := eq_false (Nat.not_lt.2 c52)
            simp only [Option.some.injEq, Prod.mk.injEq] at H
            obtain ⟨rfl, rfl⟩ := H
            try go_wp2_with (first | ((with_reducible refine zm (N := 39) rfl ?_); refine Kd.jz (Kd.int .u8) _ 5 ?hg (N := 39) ?hd (xs := ([(a0) % 256] : List Int)) (inner := [.int .u8 ((a0) % 256)]) (ok := fun _ => True) (okp := fun _ => True) ?hr ?hp (fun _ hk => hk) trivial (Below.refl _ _) (Nat.le_refl _) uf ?_; (case hd => rfl); (case hg => rfl); (case hr => first | (go_simp; done) | (go_simp; rfl)); (case hp => exact (Reps.one (show Kd.M (Kd.int .u8) _ _ _ ((a0) % 256) [.int .u8 ((a0) % 256)] from rfl) (Reps.none _ _))); intro v289 w53 ho54 hb hg_ hnew_; clear hg_ hnew_; (first | rw [← Ny288.out] at ho54 | (simp only [Int.reduceToNat] at ho54; rw [← Ny288.out] at ho54)); have n0_ := qb.mk (Kd.kn ho54 (qp cu)); have n1_ := qb.mk (qm cu hb); clear HB; have HO290 := n0_; have HB := n1_; clear n0_ n1_; clear hb ho54) | ((with_reducible refine zm (N := 49) rfl ?_); refine Kd.jz (Kd.int .u8) _ 5 ?hg (N := 49) ?hd (xs := ([131, (x6_2 / 65536) % 256, (x6_2 / 256) % 256, (x6_2) % 256] : List Int)) (inner := [.int .u8 131, .int .u8 ((x6_2 / 65536) % 256), .int .u8 ((x6_2 / 256) % 256), .int .u8 ((x6_2) % 256)]) (ok := fun _ => True) (okp := fun _ => True) ?hr ?hp (fun _ hk => hk) trivial (Below.refl _ _) (Nat.le_refl _) uf ?_; (case hd => rfl); (case hg => rfl); (case hr => first | (go_simp; done) | (go_simp; rfl)); (case hp => exact (Reps.one (show Kd.M (Kd.int .u8) _ _ _ 131 [.int .u8 131] from rfl) (Reps.one (show Kd.M (Kd.int .u8) _ _ _ ((x6_2 / 65536) % 256) [.int .u8 ((x6_2 / 65536) % 256)] from rfl) (Reps.one (show Kd.M (Kd.int .u8) _ _ _ ((x6_2 / 256) % 256) [.int .u8 ((x6_2 / 256) % 256)] from rfl) (Reps.one (show Kd.M (Kd.int .u8) _ _ _ ((x6_2) % 256) [.int .u8 ((x6_2) % 256)] from rfl) (Reps.none _ _)))))); intro v310 w55 ho56 hb hg_ hnew_; clear hg_ hnew_; (first | rw [← Ny309.out] at ho56 | (simp only [Int.reduceToNat] at ho56; rw [← Ny309.out] at ho56)); have n0_ := qb.mk (Kd.k6 caj (Kd.je ho56) hb); have n1_ := qb.mk (Kd.kn (Kd.jm ho56 (Kd.R_lt caj)) (qp cu)); have n2_ := qb.mk (qm cu hb); clear HO290; clear HB; have HO290 := n0_; have HO311 := n1_; have HB := n2_; clear n0_ n1_ n2_; clear hb ho56; obtain ⟨Ao58, co58, eo58⟩ := Kd.xo HO311.out; subst eo58) | ((with_reducible refine xp (b := .append) (xs := #[.tmp 40, .tmp 49]) rfl ?_); at_builtin; refine Kd.vk (Kd.int .u8) (w0 := w) w.heap.size rfl (.tmp 40) (.tmp 49) 59 5 (.int .u8 0) 1 rfl Tryz.underlying59 info5 rfl (by decide) yg v289 y288 y309 _ _ _ (fun k_ => some k_ ≠ (.slice Ao58 y309.length co58 : Value).ownBlock) (fun _ => False) rfl rfl ?aO ?aR (fun _ _ h => h) (fun _ h => h.elim) ?aF ?aB ?aS ?aL ?_; (case aR => repeat (first | exact (Kd.zq HO311.out).2.2 | (with_reducible refine Kd.xr ?_ _) | (with_reducible refine Kd.xt ?_ _) | (with_reducible refine Kd.kp ?_))); (case aB => exact cu); (case aF => exact (fun k_ hk => Kd.fresh' (Kd.R_lt cbc) k_ hk)); (case aO => exact (by (with_reducible repeat (first | apply Kd.qw | apply Kd.qv | apply Kd.qz)); exact Kd.xn HO290.out (fun _ hk => hk.2))); (case aS => exact (qp cu)); (case aL => have := LMc50.out; omega); intro v313 w57 ho hb hg hat; rw [← Ny312.out] at ho; have n0_ := qb.mk (Kd.jy (ok := (fun _ => True)) cbc hg hat); have n1_ := qb.mk (hb); have n2_ := qb.mk (ho); clear HO311; clear HB; clear HO290; have HO311 := n0_; have HB := n1_; have HO314 := n2_; clear n0_ n1_ n2_; clear ho hb hg hat))
            have n0_ := qb.mk (Kd.qz HO311.out)
            have n1_ := qb.mk (Kd.qz HO314.out)
            have n2_ := qb.mk (qd HB.out)
            clear HO311
            clear HO314
            clear HB
            have HO311 := n0_
            have HO314 := n1_
            have HB := n2_
            clear n0_ n1_ n2_
            have hcv60 := jd (P := Tryz.prog) Tryz.underlying59 Tryz.underlying5 Tryz.underlying9 (Kd.jl HO314.out)
            refine start_ (n := 7) (S := fun w' => Sem.run Tryz.prog (convert 59 9 v313) w' = .ok (.string (strOfNums y312)) w') (ds := []) #[false, false, false, false, false, false, false] yh rfl rfl hcv60 (fun hHeld => ?_)
            generalize w57.drew = w59 at HO311 HO314 HB hHeld ⊢
            refine xq (i := 0) (N := some 78) (v := ?_) (a' := ?_) #[true, false, false, false, false, false, false] rfl rfl yh (fun _ _ _ h => h) (Or.inl ⟨by rfl, ?_⟩) ?_ ?_
            rotate_left
            ·intro w'
             go_simp
             with_reducible rfl
            rotate_left
            ·simp only [Act.put, List.setIfInBounds_toArray, List.set_cons_zero, List.set_cons_succ, zo, zr]
             rfl
            refine take_ (i := 1) (N := some 79) (v := ?_) (a' := ?_) #[true, true, false, false, false, false, false] rfl rfl yh (fun _ _ _ h => h) (Or.inl ⟨by rfl, ?_⟩) hHeld ?_ ?_
            rotate_left
            ·rintro w' s0
             go_simp
             with_reducible rfl
            rotate_left
            ·simp only [Act.put, List.setIfInBounds_toArray, List.set_cons_zero, List.set_cons_succ, zo, zr]
             rfl
            refine xq (i := 2) (N := some 80) (v := ?_) (a' := ?_) #[true, true, true, false, false, false, false] rfl rfl yh (fun _ _ _ h => h) (Or.inl ⟨by rfl, ?_⟩) ?_ ?_
            rotate_left
            ·intro w'
             go_simp
             with_reducible rfl
            rotate_left
            ·simp only [Act.put, List.setIfInBounds_toArray, List.set_cons_zero, List.set_cons_succ, zo, zr]
             rfl
            refine one_ (i := 3) (N := some 81) #[true, true, true, true, false, false, false] rfl rfl yh (by decide) (fun K hK => ?_)
            refine goes_ Tryz.func53 yh rfl #[.slice A1 l1.length c1, .string (⟨#[]⟩ : ByteArray)] (by rfl) rfl rfl cz ?_
            with_reducible refine (strings_Join.calls _ _ l1 (⟨#[]⟩ : ByteArray) t315 _ ?side1 ?side2 A51.out).mono ?_
            (case side1 => repeat (first | exact (Kd.xv HR1.out HB.out) | (with_reducible refine Kd.xr ?_ _) | (with_reducible refine Kd.xt ?_ _) | (with_reducible refine Kd.kp ?_)))
            (case side2 => exact HC1.out)
            rintro e w61 ⟨rfl, hb⟩
            refine ⟨_, rfl, ?_⟩
            have n0_ := qb.mk (Kd.z8 cbc hb)
            have n1_ := qb.mk (Kd.z8 (by (with_reducible repeat (first | apply Kd.qw | apply Kd.qv | apply Kd.qz)); exact HO314.out) hb)
            have n2_ := qb.mk (qm cu hb)
            clear HO311
            clear HO314
            clear HB
            have HO311 := n0_
            have HO314 := n1_
            have HB := n2_
            clear n0_ n1_ n2_
            (try clear hb)
            (try clear hb2)
            (try clear hk)
            (try clear hi)
            refine hK.out _ _ (jd (P := Tryz.prog) Tryz.underlying59 Tryz.underlying5 Tryz.underlying9 (Kd.jl HO314.out)) (fun hHeld => ?_)
            clear hK K
            refine jn (a' := ?_) ?_ ?_
            rotate_left
            ·show Act.put _ (some 81) _ = _
             simp only [Act.put, List.setIfInBounds_toArray, List.set_cons_zero, List.set_cons_succ, zo, zr]
             rfl
            refine xq (i := 4) (N := some 82) (v := ?_) (a' := ?_) #[true, true, true, true, true, false, false] rfl rfl yh (fun _ _ _ h => h) (Or.inl ⟨by rfl, ?_⟩) ?_ ?_
            rotate_left
            ·intro w'
             go_simp
             with_reducible rfl
            rotate_left
            ·simp only [Act.put, List.setIfInBounds_toArray, List.set_cons_zero, List.set_cons_succ, zo, zr]
             rfl
            refine xq (i := 5) (N := some 4) (v := ?_) (a' := ?_) #[true, true, true, true, true, true, false] rfl rfl yh (fun _ _ _ h => h) (Or.inl ⟨by rfl, ?_⟩) ?_ ?_
            rotate_left
            ·intro w'
             go_simp
             with_reducible rfl
            rotate_left
            ·simp only [Act.put, List.setIfInBounds_toArray, List.set_cons_zero, List.set_cons_succ, zo, zr]
             rfl
            refine xq (i := 6) (N := some 5) (v := ?_) (a' := ?_) #[true, true, true, true, true, true, true] rfl rfl yh (fun _ _ _ h => h) (Or.inl ⟨by rfl, ?_⟩) ?_ ?_
            rotate_left
            ·intro w'
             go_simp
             with_reducible rfl
            rotate_left
            ·simp only [Act.put, List.setIfInBounds_toArray, List.set_cons_zero, List.set_cons_succ, zo, zr]
             rfl
            refine done_ yh ?_
            try go_wp2
            go_ret2
            exact ⟨by first | rfl | (simp [qt, qu] <;> rfl) | (simp [*, qt, qu] <;> rfl), by repeat (first | (with_reducible first | exact HB.out | apply qc | apply qa | apply qd) | exact HB.out)⟩
           ·rw [if_neg c52] at H
            exact absurd H uf
          ·rw [if_neg c50] at H
           exact absurd H uf
end Go.Proofs.YthdoohfdminfgaaGreatDoor.C
end
section
namespace Go.Proofs.YthdoohfdminfgaaGreatDoor.C
open Go.RowKit Go.Proofs.YthdoohfdminfgaaGreatDoorW.PrintWords Go.Proofs.YthdoohfdminfgaaGreatDoorW.PrintLast Go.Proofs.YthdoohfdminfgaaGreatDoorW.PrintMore
attribute [local go_sem] kc xy kr ks xh xg xz xx
set_option linter.unusedVariables false
set_option linter.unusedSimpArgs false
def hiD (m : Nat) : List Int := if h : m = 0 then [] else hiD (m / 128) ++ [((m % 128 + 128 : Nat) : Int)]
decreasing_by exact Nat.div_lt_self (Nat.pos_of_ne_zero h) (by decide)
def putD (m : Nat) : List Int := hiD (m / 128) ++ [((m % 128 : Nat) : Int)]
theorem shr_is (m k : Nat) : (m : Int) / 2 ^ (7 * k) = ((m / 128 ^ k : Nat) : Int) := by
 have h2 : (2 : Int) ^ (7 * k) = ((128 ^ k : Nat) : Int) := by rw [show (128 : Nat) = 2 ^ 7 from rfl, ← Nat.pow_mul, Int.natCast_pow]; rfl
 rw [h2]
 exact (Int.natCast_ediv _ _).symm
theorem or128_all : (List.range 128).all (fun y => decide (Go.bits .or .i64 (y : Int) 128 % 256 = (y : Int) + 128)) = true := by kernel_rfl
theorem or128 (y : Nat) (h : y < 128) : Go.bits .or .i64 (y : Int) 128 % 256 = (y : Int) + 128 := by
 have := List.all_eq_true.1 or128_all y (List.mem_range.2 h)
 simpa using this
theorem last_is (m : Nat) : Go.bits .and .i64 (m : Int) 127 % 256 = ((m % 128 : Nat) : Int) := by rw [i64_and127]; omega
theorem digit_is (m k : Nat) : Go.bits .or .i64 (Go.bits .and .i64 ((m : Int) / 2 ^ (7 * k)) 127) 128 % 256 = ((m / 128 ^ k % 128 + 128 : Nat) : Int) := by
 rw [i64_and127, shr_is, show ((m / 128 ^ k : Nat) : Int) % 128 = ((m / 128 ^ k % 128 : Nat) : Int) from by omega, or128 _ (Nat.mod_lt _ (by decide))]
 omega
theorem hiD_zero : hiD 0 = [] := by unfold hiD; rfl
theorem hiD_step {m : Nat} (h : m ≠ 0) : hiD m = hiD (m / 128) ++ [((m % 128 + 128 : Nat) : Int)] := by rw [hiD, dif_neg h]
theorem hiD_len : ∀ (j m : Nat), m < 128 ^ j → (hiD m).length ≤ j
 | 0, m, h => by
  obtain rfl : m = 0 := by simpa using h
  rw [hiD_zero]; exact Nat.le_refl 0
 | j + 1, m, h => by
  by_cases h0 : m = 0
  ·subst h0; rw [hiD_zero]; exact Nat.zero_le _
  ·rw [hiD_step h0, List.length_append]
   have := hiD_len j (m / 128) (Nat.div_lt_of_lt_mul (by rw [Nat.pow_succ, Nat.mul_comm] at h; exact h))
   simpa using this
set_option maxHeartbeats 8000000 in
set_option maxRecDepth 100000 in
theorem put_own (m : Nat) (hm : m < 34359738368) {base : Nat} {v : Value} {xs : List Int} {w : World} (hv : Kd.R (Kd.int .u8) 5 w base (fun _ => True) v xs) (hb : base ≤ w.heap.size) (hl : xs.length ≤ 1000000) :
  Calls Tryz.prog 101 #[v, .int .i64 (m : Int)] w fun e w' => ∃ v', e = .returned v' ∧ Kd.R (Kd.int .u8) 5 w' base (fun _ => True) v' (xs ++ putD m) ∧ Below base w w' := by
 have HV := qb.mk hv
 have HBS := qb.mk hb
 have HL := qb.mk hl
 have HM := qb.mk hm
 clear hv hb hl hm
 go_enter Tryz.func101, Tryz.ntmps101
 go_wp2
 go_loopg [5] 5 (fun kq v5 w' => ∃ k : Nat, v5 = .int .i64 k ∧ qb (k + kq = 6) ∧ qb (k = 1 ∨ 1 ≤ k ∧ 128 ^ (k - 1) ≤ m) ∧ qb (w' = w))
 case atStart => exact ⟨1, rfl, ⟨by omega⟩, ⟨Or.inl rfl⟩, ⟨rfl⟩⟩
 case round =>
  obtain ⟨k, rfl, hk, hp, hw⟩ := hrel
  obtain rfl := hw.out.symm
  have hk6 : k ≤ 6 := by have := hk.out; omega
  have hs := shr_is m k
  by_cases hc : m < 128 ^ k
  ·have q1 : (0 < (m : Int) / 2 ^ (7 * k)) = False := eq_false (by rw [hs, Nat.div_eq_of_lt hc]; decide)
   have q2 : decide (0 < (m : Int) / 2 ^ (7 * k)) = false := decide_eq_false (of_eq_false q1)
   have HC := qb.mk hc
   have W1 := qb.mk (show wrap64 ((k : Int) - 1) = ((k - 1 : Nat) : Int) by have := hp.out; unfold wrap64; omega)
   clear hc hs
   go_wp2
   go_loopg [0, 6] (k - 1) (fun kq v0 v6 w' => ∃ i : Nat, v6 = .int .i64 i ∧ qb (i = kq) ∧ qb (i < k) ∧ qb (Kd.R (Kd.int .u8) 5 w' base (fun _ => True) v0 (xs ++ hiD (m / 128 ^ (i + 1)))) ∧ qb (Below base w w'))
   case atStart => exact ⟨k - 1, by have := hp.out; rw [show ((k - 1 : Nat) : Int) = (k : Int) - 1 from by omega], ⟨rfl⟩, ⟨by have := hp.out; omega⟩, ⟨by rw [Nat.sub_add_cancel (by have := hp.out; omega), Nat.div_eq_of_lt HC.out, hiD_zero, List.append_nil]; exact HV.out⟩, ⟨Below.refl _ _⟩⟩
   case round =>
    clear HC q1 q2 W1
    obtain ⟨i, rfl, hi, hik, HO, HB⟩ := hrel
    obtain rfl := hi.out
    have hik6 : i ≤ 6 := by have := hik.out; omega
    cases i with
    | zero =>
     have HN := qb.mk (hiD_len 5 (m / 128 ^ (0 + 1)) (Nat.lt_of_le_of_lt (Nat.div_le_self _ _) (by have := HM.out; omega)))
     go_wp2_with ((with_reducible refine xp (b := .append) (xs := #[.tmp 32, .tmp 36]) rfl ?_); at_builtin; refine Kd.k9 (Kd.int .u8) (w0 := w) base rfl (.tmp 32) (.tmp 36) 59 5 (.int .u8 0) 1 rfl Tryz.underlying59 yh rfl (by decide) yg u0 (xs ++ hiD (m / 128 ^ (0 + 1))) _ [.int .u8 _] (fun _ => True) (fun _ => False) rfl rfl rfl (fun _ hk => hk.elim) (fun _ _ => trivial) HO.out HB.out (Nat.le_trans HBS.out HB.out.size) (by have := HL.out; have := HN.out; rw [List.length_append]; omega) ?_; intro v1 W1 ho hb hg hat; rw [last_is, List.append_assoc] at ho; have HO1 := qb.mk ho; have HB1 := qb.mk hb; clear ho hb hg hat)
     go_ret
     exact ⟨v1, rfl, HO1.out, HB1.out⟩
    | succ i =>
     have q1 : (0 < ((i + 1 : Nat) : Int)) = True := eq_true yg
     have q2 : decide (0 < ((i + 1 : Nat) : Int)) = true := decide_eq_true yg
     have HN := qb.mk (hiD_len 5 (m / 128 ^ (i + 1 + 1)) (Nat.lt_of_le_of_lt (Nat.div_le_self _ _) (by have := HM.out; omega)))
     go_wp2_with ((with_reducible refine xp (b := .append) (xs := #[.tmp 21, .tmp 30]) rfl ?_); at_builtin; refine Kd.k9 (Kd.int .u8) (w0 := w) base rfl (.tmp 21) (.tmp 30) 59 5 (.int .u8 0) 1 rfl Tryz.underlying59 yh rfl (by decide) yg u0 (xs ++ hiD (m / 128 ^ (i + 1 + 1))) _ [.int .u8 _] (fun _ => True) (fun _ => False) rfl rfl rfl (fun _ hk => hk.elim) (fun _ _ => trivial) HO.out HB.out (Nat.le_trans HBS.out HB.out.size) (by have := HL.out; have := HN.out; rw [List.length_append]; omega) ?_; intro v1 W1 ho hb hg hat; have HO1 := qb.mk ho; have HB1 := qb.mk hb; clear ho hb hg hat)
     have e1 : m / 128 ^ (i + 1) ≠ 0 := by
      have h1 := hp.out
      have h2 := hik.out
      have h3 : 128 ^ (i + 1) ≤ 128 ^ (k - 1) := Nat.pow_le_pow_right (by decide) yg
      have := Nat.div_pos (show 128 ^ (i + 1) ≤ m by omega) (Nat.pow_pos (by decide) : 0 < 128 ^ (i + 1))
      omega
     have e2 : hiD (m / 128 ^ (i + 1)) = hiD (m / 128 ^ (i + 1 + 1)) ++ [((m / 128 ^ (i + 1) % 128 + 128 : Nat) : Int)] := by
      rw [hiD_step e1, Nat.div_div_eq_div_mul, ← Nat.pow_succ]
     have HO2 := qb.mk (show Kd.R (Kd.int .u8) 5 W1 base (fun _ => True) v1 (xs ++ hiD (m / 128 ^ (i + 1))) by rw [e2, ← List.append_assoc, ← digit_is]; exact HO1.out)
     clear HO1 e1 e2
     go_roundg i
     case measure => omega
     case rel => exact ⟨i, rfl, ⟨rfl⟩, ⟨by have := hik.out; omega⟩, HO2, HB1⟩
  ·have q1 : (0 < (m : Int) / 2 ^ (7 * k)) = True := eq_true (by rw [hs]; have := Nat.div_pos (Nat.le_of_not_lt hc) (Nat.pow_pos (by decide) : 0 < 128 ^ k); omega)
   have q2 : decide (0 < (m : Int) / 2 ^ (7 * k)) = true := decide_eq_true (of_eq_true q1)
   have W1 := qb.mk (show wrap64 ((k : Int) + 1) = ((k + 1 : Nat) : Int) by unfold wrap64; omega)
   have HC := qb.mk hc
   clear hs
   cases gk with
   | zero =>
    have h1 := hk.out
    have h6 : k = 6 := by omega
    subst h6
    have h2 := HM.out
    exact absurd hc yg
   | succ gk =>
    go_wp2
    go_roundg gk
    case measure => omega
    case rel => exact ⟨k + 1, rfl, ⟨by have := hk.out; omega⟩, ⟨Or.inr ⟨by omega, by rw [Nat.add_sub_cancel]; omega⟩⟩, ⟨rfl⟩⟩
theorem put_ownZ (z : Int) (hz : 0 ≤ z ∧ z < 34359738368) {base : Nat} {v : Value} {xs : List Int} {w : World} (hv : Kd.R (Kd.int .u8) 5 w base (fun _ => True) v xs) (hb : base ≤ w.heap.size) (hl : xs.length ≤ 1000000) :
  Calls Tryz.prog 101 #[v, .int .i64 z] w fun e w' => ∃ v', e = .returned v' ∧ Kd.R (Kd.int .u8) 5 w' base (fun _ => True) v' (xs ++ putD z.toNat) ∧ Below base w w' := by
 obtain ⟨m, rfl⟩ := Int.eq_ofNat_of_zero_le hz.1
 exact put_own m yg hv hb hl
theorem putD_len (m : Nat) (h : m < 34359738368) : (putD m).length ≤ 6 := by
 unfold putD
 rw [List.length_append]
 have := hiD_len 5 (m / 128) yg
 simpa using this
def arcsD (x y : Int) (r : List Int) : List Int := r.foldl (fun b z => b ++ putD z.toNat) (putD (40 * x + y).toNat)
def kj.fin : List Int → Option (ByteArray × Int)
 | [] => some ((⟨#[]⟩ : ByteArray), 11)
 | x :: y :: r => if (0 ≤ x ∧ x ≤ 2147483647) ∧ (0 ≤ y ∧ y ≤ 2147483647) ∧ (∀ z ∈ r, 0 ≤ z ∧ z ≤ 2147483647) ∧ r.length ≤ 100 ∧ x ≤ 100 then some (strOfNums (arcsD x y r), 0) else none
 | _ => none
def kj.f (k : Nat) (a0 : ByteArray) : Option (ByteArray × Int) := (xe.f k a0).bind kj.fin
theorem kj.mono : ∀ a0 k, LeO (kj.f k a0) (kj.f (k + 1) a0) := by
 intro a0 k
 unfold kj.f
 exact LeO.bind (xe.mono a0 k) (fun _ => LeO.refl _)
theorem fold_len : ∀ (r : List Int) (b : List Int), (∀ z ∈ r, 0 ≤ z ∧ z ≤ 2147483647) → (r.foldl (fun b z => b ++ putD z.toNat) b).length ≤ b.length + 6 * r.length
 | [], b, _ => by simp
 | z :: r, b, h => by
  rw [List.foldl_cons]
  have h1 := fold_len r (b ++ putD z.toNat) (fun z hz => h z (List.mem_cons_of_mem _ hz))
  have h2 := putD_len z.toNat (by have := h z (List.mem_cons_self ..); omega)
  rw [List.length_append] at h1
  rw [List.length_cons]
  omega
def kj.T4 : Bool × List (List Nat × List Nat) := (true, [([], []), ([0], [0]), ([1], [1]), ([2], [2]), ([], []), ([4], [4]), ([5], [5]), ([3, 6], [3, 6]), ([7], [7]), ([8, 8, 0, 1, 2, 3, 4, 5, 6, 7, 8], [8])])
def kj.B4 : List Nat := [0, 1, 3, 7, 0, 16, 48, 127, 255, 511]
theorem kj.tab4 : rtab .any (opsOf Tryz.f73 4) = kj.T4 := by kernel_rfl
theorem kj.bits4 : waitsOk kj.T4.2 kj.B4 = true := by kernel_rfl
set_option maxHeartbeats 8000000 in
set_option maxRecDepth 100000 in
theorem kj.calls (k : Nat) (a0 : ByteArray) (r1 : ByteArray) (r2 : Int) (w : World) (hG : LibHeld w) (h : kj.f k a0 = some (r1, r2)) :
  Calls Tryz.prog 73 #[.string a0] w fun e w' => e = .returned (.tuple #[.string r1, .int .i64 r2]) ∧ Below w.heap.size w w' := by
 unfold kj.f at h
 obtain ⟨l, hl, h⟩ := Option.bind_eq_some_iff.1 h
 have HG := qb.mk hG
 have HL := qb.mk hl
 clear hG hl
 have hn := fun W a n c => Lib.run_eql_slice_nil (P := Tryz.prog) W 22 3 a n c 0 0 Tryz.underlying22
 match l, h, HL with
 | [], h, HL =>
  unfold kj.fin at h
  obtain ⟨rfl, rfl⟩ := Prod.mk.inj (Option.some.inj h)
  clear h
  go_enter Tryz.func73, Tryz.ntmps73
  go_wp2_with (go_at_call 100; refine (xe.calls k _ [] _ HG.out HL.out).mono ?_; rintro e w' ⟨v, rfl, ho, hv, hb⟩; (have e_ := hv rfl; subst e_); clear ho hv; have HB := qb.mk hb; clear hb)
  go_ret2
  exact ⟨rfl, HB.out⟩
 | [_], h, _ => exact absurd h (by simp [kj.fin])
 | x :: y :: r, h, HL =>
  replace h : (if (0 ≤ x ∧ x ≤ 2147483647) ∧ (0 ≤ y ∧ y ≤ 2147483647) ∧ (∀ z ∈ r, 0 ≤ z ∧ z ≤ 2147483647) ∧ r.length ≤ 100 ∧ x ≤ 100 then some (strOfNums (arcsD x y r), (0 : Int)) else none) = some (r1, r2) := h
  split at h
  case isFalse => exact absurd h uf
  rename_i hq
  obtain ⟨rfl, rfl⟩ := Prod.mk.inj (Option.some.inj h)
  clear h
  have HQ := qb.mk hq
  clear hq
  go_enter Tryz.func73, Tryz.ntmps73
  go_upto_region 4 with (go_at_call 100; refine (xe.calls k _ (x :: y :: r) _ HG.out HL.out).mono ?_; rintro e w1 ⟨v, rfl, ho, hv, hb⟩; (obtain ⟨g, c, rfl, hgb, hglt, _, _⟩ := Kd.R_form ho uf); clear hv; have HO := qb.mk ho; have HB := qb.mk hb; clear hb ho)
  obtain ⟨ad1, e1, hx0⟩ := Kd.at_int (Kd.zq HO.out).2.2 0 yg ca5
  obtain rfl : (⟨g, 0, none⟩ : Addr) = ad1 := by injection e1
  obtain ⟨ad2, e2, hx1⟩ := Kd.at_int (Kd.zq HO.out).2.2 1 yg ca5
  obtain rfl : (⟨g, 0, none⟩ : Addr) = ad2 := by injection e2
  have hx0 : w1.cell? ⟨g, 0, none⟩ = some (.int .i64 x) := hx0
  have hx1 : w1.cell? ⟨g, 1, none⟩ = some (.int .i64 y) := hx1
  have q0 : (0 < (r.length : Int) + 1 + 1) = True := eq_true yg
  have q1 : (1 < (r.length : Int) + 1 + 1) = True := eq_true yg
  have W40 := qb.mk (show wrap64 (wrap64 (40 * x) + y) = 40 * x + y by have := HQ.out; unfold wrap64; omega)
  clear e1 e2
  have HB0 := qb.mk (HB.out.trans (j9 (Below.refl _ w1)))
  have HC0 := qb.mk (Kd.z8 HO.out (j9 (Below.refl _ w1)))
  clear HO HB
  refine start_ (n := 10) (S := fun w' => w'.cell? ⟨g, 0, none⟩ = some (.int .i64 x) ∧ w'.cell? ⟨g, 1, none⟩ = some (.int .i64 y)) (ds := []) #[false, false, false, false, false, false, false, false, false, false] yh rfl rfl ⟨hx0, hx1⟩ (fun hHeld => ?_); refine with_tabW kj.tab4 kj.bits4 (fun HT_ HW_ => ?_)
  generalize w1.drew = Wd at HB0 HC0 hHeld ⊢
  clear hx0 hx1
  refine xq (i := 0) (N := (some 12)) (v := ?_) (a' := ?_) #[true, false, false, false, false, false, false, false, false, false] rfl rfl (xj HT_.out yh) (fun _ _ _ h => h) (Or.inl ⟨by rfl, ?_⟩) ?_ ?_
  rotate_left
  ·intro w'
   go_simp
   with_reducible rfl
  rotate_left
  ·simp only [Act.put, List.setIfInBounds_toArray, List.set_cons_zero, List.set_cons_succ, zo, zr]
   rfl
  refine xq (i := 1) (N := (some 13)) (v := ?_) (a' := ?_) #[true, true, false, false, false, false, false, false, false, false] rfl rfl (xj HT_.out yh) (fun _ _ _ h => h) (Or.inl ⟨by rfl, ?_⟩) ?_ ?_
  rotate_left
  ·intro w'
   go_simp
   with_reducible rfl
  rotate_left
  ·simp only [Act.put, List.setIfInBounds_toArray, List.set_cons_zero, List.set_cons_succ, zo, zr]
   rfl
  refine xq (i := 4) (N := (some 16)) (v := ?_) (a' := ?_) #[true, true, false, false, true, false, false, false, false, false] rfl rfl (xj HT_.out yh) (fun _ _ _ h => h) (Or.inl ⟨by rfl, ?_⟩) ?_ ?_
  rotate_left
  ·intro w'
   go_simp
   with_reducible rfl
  rotate_left
  ·simp only [Act.put, List.setIfInBounds_toArray, List.set_cons_zero, List.set_cons_succ, zo, zr]
   rfl
  refine xq (i := 5) (N := (some 17)) (v := ?_) (a' := ?_) #[true, true, false, false, true, true, false, false, false, false] rfl rfl (xj HT_.out yh) (fun _ _ _ h => h) (Or.inl ⟨by rfl, ?_⟩) ?_ ?_
  rotate_left
  ·intro w'
   go_simp
   with_reducible rfl
  rotate_left
  ·simp only [Act.put, List.setIfInBounds_toArray, List.set_cons_zero, List.set_cons_succ, zo, zr]
   rfl
  refine take_ (i := 2) (N := (some 14)) (v := ?_) (a' := ?_) #[true, true, true, false, true, true, false, false, false, false] rfl rfl (jb HT_.out HW_.out yh) (fun _ _ _ h => h) (Or.inl ⟨by rfl, ?_⟩) hHeld ?_ ?_
  rotate_left
  ·rintro w' ⟨s0, s1⟩
   go_simp
   with_reducible rfl
  rotate_left
  ·simp only [Act.put, List.setIfInBounds_toArray, List.set_cons_zero, List.set_cons_succ, zo, zr]
   rfl
  refine xq (i := 3) (N := (some 15)) (v := ?_) (a' := ?_) #[true, true, true, true, true, true, false, false, false, false] rfl rfl (xj HT_.out yh) (fun _ _ _ h => h) (Or.inl ⟨by rfl, ?_⟩) ?_ ?_
  rotate_left
  ·intro w'
   go_simp
   with_reducible rfl
  rotate_left
  ·simp only [Act.put, List.setIfInBounds_toArray, List.set_cons_zero, List.set_cons_succ, zo, zr]
   rfl
  refine take_ (i := 6) (N := (some 18)) (v := ?_) (a' := ?_) #[true, true, true, true, true, true, true, false, false, false] rfl rfl (jb HT_.out HW_.out yh) (fun _ _ _ h => h) (Or.inl ⟨by rfl, ?_⟩) hHeld ?_ ?_
  rotate_left
  ·rintro w' ⟨s0, s1⟩
   go_simp
   with_reducible rfl
  rotate_left
  ·simp only [Act.put, List.setIfInBounds_toArray, List.set_cons_zero, List.set_cons_succ, zo, zr]
   rfl
  refine xq (i := 7) (N := (some 19)) (v := ?_) (a' := ?_) #[true, true, true, true, true, true, true, true, false, false] rfl rfl (xj HT_.out yh) (fun _ _ _ h => h) (Or.inl ⟨by rfl, ?_⟩) ?_ ?_
  rotate_left
  ·intro w'
   go_simp
   with_reducible rfl
  rotate_left
  ·simp only [Act.put, List.setIfInBounds_toArray, List.set_cons_zero, List.set_cons_succ, zo, zr]
   rfl
  refine one_ (i := 8) (N := some 20) #[true, true, true, true, true, true, true, true, true, false] rfl rfl (j8 HT_.out yh) (by decide) (fun K hK => ?_)
  refine goes_ Tryz.func101 yh rfl #[.slice none 0 0, .int .i64 (wrap64 (wrap64 (40 * x) + y))] (by rfl) rfl rfl cz ?_
  rw [W40.out]
  refine (put_ownZ (40 * x + y) (by have := HQ.out; omega) (xs := []) (Kd.jx (Kd.int .u8) _ Wd Wd.heap.size (fun _ => True)) (Nat.le_refl _) uf).mono ?_
  rintro e_ W2 ⟨v5, rfl, ho, hb⟩
  refine ⟨_, rfl, ?_⟩
  rw [List.nil_append] at ho
  have HV := qb.mk ho
  have HBd := qb.mk hb
  have HS2 := qb.mk (show W2.cell? ⟨g, 0, none⟩ = some (.int .i64 x) ∧ W2.cell? ⟨g, 1, none⟩ = some (.int .i64 y) from ⟨(hb.cell (World.block_lt_of_cell? _ _ hHeld.1)).trans hHeld.1, (hb.cell (World.block_lt_of_cell? _ _ hHeld.2)).trans hHeld.2⟩)
  clear ho hb hHeld
  refine hK.out _ _ HS2.out (fun hHeld => ?_)
  clear hK K HS2
  refine jn (a' := ?_) ?_ ?_
  rotate_left
  ·show Act.put _ (some 20) _ = _
   simp only [Act.put, List.setIfInBounds_toArray, List.set_cons_zero, List.set_cons_succ, zo, zr]
   rfl
  refine xq (i := 9) (N := (some 5)) (v := ?_) (a' := ?_) #[true, true, true, true, true, true, true, true, true, true] rfl rfl (xj HT_.out yh) (fun _ _ _ h => h) (Or.inl ⟨by rfl, ?_⟩) ?_ ?_
  rotate_left
  ·intro w'
   go_simp
   with_reducible rfl
  rotate_left
  ·simp only [Act.put, List.setIfInBounds_toArray, List.set_cons_zero, List.set_cons_succ, zo, zr]
   rfl
  refine done_ (done_of HT_.out yh) ?_
  clear hHeld
  have HA := qb.mk (show Kd.C (Kd.int .i64) Wd (if c = 2 then some ⟨g, 0, none⟩ else some ⟨g, 2, none⟩) r.length r by
   have h := Kd.C_drop (m := 2) (c := c) (Kd.zq HC0.out).2.2 uf (Kd.zq HC0.out).2.1
   exact h)
  have q3 : ((2 : Int) ≤ (r.length : Int) + 1 + 1) = True := eq_true yg
  clear HC0 q0 q1 hx0 hx1
  by_cases hc2 : c = 2
  case' pos =>
   subst hc2
   have HA2 := qb.mk (show Kd.C (Kd.int .i64) Wd (some ⟨g, 0, none⟩) r.length r from HA.out)
   clear HA
   go_wp2
   generalize (some ⟨g, 0, none⟩ : Option Addr) = A22 at HA2 ⊢
  case' neg =>
   have HA2 := qb.mk (show Kd.C (Kd.int .i64) Wd (some ⟨g, 2, none⟩) r.length r by have h := HA.out; rwa [if_neg hc2] at h)
   clear HA
   have q5 : (c = 2) = False := eq_false hc2
   go_wp2
   generalize (some ⟨g, 2, none⟩ : Option Addr) = A22 at HA2 ⊢
  all_goals
   go_loopg [5, 24] r.length (fun kq v5 v24 w' => ∃ i : Nat, v24 = .int .i64 i ∧ qb (i + kq = r.length) ∧ qb (Kd.R (Kd.int .u8) 5 w' Wd.heap.size (fun _ => True) v5 (arcsD x y (r.take i))) ∧ qb (Below Wd.heap.size Wd w'))
   case atStart => exact ⟨0, rfl, ⟨by omega⟩, HV, HBd⟩
   case round =>
    clear HV HBd
    obtain ⟨i, rfl, hi, HV, HBd⟩ := hrel
    cases gk with
    | zero =>
     obtain rfl : i = r.length := by have := hi.out; omega
     have q6 : ((r.length : Int) < (r.length : Int)) = False := eq_false yg
     have hv := HV.out
     rw [List.take_length] at hv
     obtain ⟨A5, c5, rfl⟩ := Kd.xo hv
     have hstr := fun W h => Kd.C_string (P := Tryz.prog) (w := W) (src := 59) (dst := 9) (n := (arcsD x y r).length) (c := c5) (A := A5) (xs := arcsD x y r) Tryz.underlying59 Tryz.underlying5 Tryz.underlying9 h
     have hstr := hstr _ (Kd.zq hv).2.2
     clear hv
     go_wp2
     go_ret2
     exact ⟨rfl, qm HB0.out HBd.out⟩
    | succ k2 =>
     have hil : i < r.length := by have := hi.out; omega
     have q6 : ((i : Int) < (r.length : Int)) = True := eq_true yg
     have q7 : (0 ≤ (i : Int)) = True := eq_true yg
     obtain ⟨ad, rfl, hz⟩ := Kd.at_int (Kd.xv HA2.out HBd.out) i yg yg
     rw [Int.toNat_natCast] at hz
     have hget : rd r (i : Int) = r[i] := by simp [rd, hil]
     obtain ⟨z, hzd⟩ : ∃ z, z = r[i] := ⟨_, rfl⟩
     rw [hget, ← hzd] at hz
     have HZ := qb.mk (show 0 ≤ z ∧ z < 34359738368 by have h1 := HQ.out.2.2.1 z (by rw [hzd]; exact List.getElem_mem hil); omega)
     have HT := qb.mk (show arcsD x y (r.take (i + 1)) = arcsD x y (r.take i) ++ putD z.toNat by rw [List.take_add_one, List.getElem?_eq_getElem hil, ← hzd, Option.toList_some]; unfold arcsD; rw [List.foldl_append]; rfl)
     have HLn := qb.mk (show (arcsD x y (r.take i)).length ≤ 1000000 by
      have h1 := fold_len (r.take i) (putD (40 * x + y).toNat) (fun z hz => HQ.out.2.2.1 z (List.mem_of_mem_take hz))
      have h2 := putD_len (40 * x + y).toNat (by have := HQ.out; omega)
      have h3 : (r.take i).length ≤ 100 := by rw [List.length_take]; have := HQ.out.2.2.2.1; omega
      unfold arcsD
      omega)
     have W1i := qb.mk (show wrap64 ((i : Int) + 1) = ((i + 1 : Nat) : Int) by have := HQ.out.2.2.2.1; unfold wrap64; omega)
     clear hget hzd
     go_wp2_with (go_at_call 101; refine (put_ownZ z HZ.out HV.out HBd.out.size HLn.out).mono ?_; rintro e_ W3 ⟨v6, rfl, ho, hb⟩; rw [← HT.out] at ho; have HO3 := qb.mk ho; have HB3 := qb.mk (HBd.out.trans hb); clear ho hb)
     go_roundg k2
     case measure => omega
     case rel => exact ⟨i + 1, by rw [W1i.out], ⟨by have := hi.out; omega⟩, HO3, HB3⟩
end Go.Proofs.YthdoohfdminfgaaGreatDoor.C
end
