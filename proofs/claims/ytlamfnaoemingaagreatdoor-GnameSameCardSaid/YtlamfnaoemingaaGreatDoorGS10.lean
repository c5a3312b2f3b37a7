/- Words, walks and plain laws that the claim rests on, gathered. -/
import Derived.Shelf.Strings.Builder1
import Derived.Shelf.Strings.Builder2
import Derived.Shelf.Strings.OnBuilder
import Derived.Shelf.Small.Bits
import Derived.Shelf.Small.Strs
import Derived.Shelf.Small.Wraps
import Derived.Shelf.Strings.BuilderF
import Derived.Shelf.Strings.BuilderK
import Derived.Shelf.Utf8.RuneCount
import Derived.Shelf.Strings.Builder2Cap
import Derived.Shelf.Strconv.Itoa0
import Derived.Shelf.Strings.Search1
import Derived.Shelf.Strings.Search2
import Derived.Shelf.Strings.Search3
import Derived.Shelf.Strings.Cut
import Derived.Shelf.Strings.Count
import Derived.Shelf.LaysM
import Derived.Shelf.Strings.Shaped
import Derived.Shelf.Sort.Plain
import Derived.Shelf.Strings.Prefix
import Derived.Shelf.Strings.Split
import Derived.Shelf.Strings.SplitShaped
import Derived.Shelf.Unicode.Decode
import Derived.Shelf.Strings.RuneCount
import Derived.Shelf.Strings.Explode
import Derived.Shelf.Unicode.DecodeSlow
import Derived.Shelf.Unicode.DecodeAny
import Derived.Shelf.Strings.BuilderCap
import Derived.Shelf.Slices.In.SortNone
import Derived.Shelf.Slices.In.SortNone2
import Derived.Test.YtlamfnaoemingaaGreatDoorProg
import Derived.Below
import Derived.Deep.Draws
import Derived.Deep.AppendLies
import Derived.Maps.AppendAt
import Derived.OwnWalk
import Derived.Laws.BytesArg
import Derived.Laws.MakeOwn
import Derived.Laws.OwnMore
import Derived.Deep.OwnRows
import Derived.Tactics
import Derived.Lib.ConvBytes
import Derived.Laws.Slices
import Derived.WalkKit
import Derived.KernelRfl
import Derived.RowKit3
import Derived.Deep.LoopGhost
import Derived.Deep.QuietTactic
import Derived.BigQuiet
import Derived.WideLaws
import Derived.Deep.DeepCutAuto
import Derived.Deep.CutBlock
import Derived.Deep.RegionHeld3
import Derived.Laws.Rows
import Derived.Lib.AppendStr
import Derived.ArgAppend
import Derived.Laws.IdiomCopy
import Derived.RowKit
import Derived.OrdersHeld
import Derived.Laws.BitsLemmas
import Derived.WalkSpells
import Derived.WalkLawsBesides
import Derived.Laws.StructEq
import Derived.Lib.SplitLaws
import Derived.Test.YtlamfnaoemingaaGreatDoorGS0
import Derived.Test.YtlamfnaoemingaaGreatDoorGS1
import Derived.Test.YtlamfnaoemingaaGreatDoorGS2
import Derived.Test.YtlamfnaoemingaaGreatDoorGS3
import Derived.Test.YtlamfnaoemingaaGreatDoorGS4
import Derived.Test.YtlamfnaoemingaaGreatDoorGS5
import Derived.Test.YtlamfnaoemingaaGreatDoorGS6
import Derived.Test.YtlamfnaoemingaaGreatDoorGS7
import Derived.Test.YtlamfnaoemingaaGreatDoorGS8
import Derived.Test.YtlamfnaoemingaaGreatDoorGS9
import Derived.Test.YtlamfnaoemingaaGreatDoorGSc
namespace Go.Proofs.YtlamfnaoemingaaGreatDoorW.PrintLast
end Go.Proofs.YtlamfnaoemingaaGreatDoorW.PrintLast
namespace Go.Proofs.YtlamfnaoemingaaGreatDoorW.PrintMore
end Go.Proofs.YtlamfnaoemingaaGreatDoorW.PrintMore
namespace Go.Proofs.YtlamfnaoemingaaGreatDoorW.PrintWords
end Go.Proofs.YtlamfnaoemingaaGreatDoorW.PrintWords
section
namespace Go.Proofs.YtlamfnaoemingaaGreatDoor.C
open Go.RowKit Go.Proofs.YtlamfnaoemingaaGreatDoorW.PrintWords Go.Proofs.YtlamfnaoemingaaGreatDoorW.PrintLast Go.Proofs.YtlamfnaoemingaaGreatDoorW.PrintMore
attribute [local go_sem] zw zx xe xd zn zp zy zz
set_option linter.unusedVariables false
set_option linter.unusedSimpArgs false
mutual
def zk.j0 : Nat → Int → List ByteArray → Bool → Option (ByteArray × Int)
 | 0, _, _, _ => none
 | k + 1, x0, x1, x20 => if x20 = true then (some ((⟨#[]⟩ : ByteArray), 5)) else (zk.l0 k x0 x1 0 x1 (x1.length : Int) 0)
def zk.l0 : Nat → Int → List ByteArray → Int → List ByteArray → Int → Int → Option (ByteArray × Int)
 | 0, _, _, _, _, _, _ => none
 | k + 1, x0, x1, x6, x21, x22, x23 => if x23 < x22 then (if 0 ≤ x23 then (if x23 < (x21.length : Int) then (if ((rdOf ByteArray.empty x21 x23).size : Int) > (wrap64 (131072 - x6)) then (some ((⟨#[]⟩ : ByteArray), 6)) else (zk.l0 k x0 x1 (wrap64 (x6 + ((rdOf ByteArray.empty x21 x23).size : Int))) x21 x22 (wrap64 (x23 + 1)))) else (none)) else (none)) else ((some (([(x0) % 256] : List Int) : List Int)).bind fun y258 => (if x6 < 128 then (if y258.length < 140737488355328 then ((some (y258 ++ [(x6) % 256] : List Int)).bind fun y261 => ((strings_Join.f x1 (⟨#[]⟩ : ByteArray)).bind fun t264 => (if (strOfNums y261).size + t264.size ≤ 9223372036854775807 then (some ((strOfNums y261) ++ t264, 0)) else (none)))) else (none)) else (if x6 < 256 then ((some (([129, (x6) % 256] : List Int) : List Int)).bind fun y265 => (if y258.length + y265.length < 140737488355328 then ((some (y258 ++ y265 : List Int)).bind fun y268 => ((strings_Join.f x1 (⟨#[]⟩ : ByteArray)).bind fun t271 => (if (strOfNums y268).size + t271.size ≤ 9223372036854775807 then (some ((strOfNums y268) ++ t271, 0)) else (none)))) else (none))) else (if x6 < 65536 then ((some (([130, (x6 / 256) % 256, (x6) % 256] : List Int) : List Int)).bind fun y272 => (if y258.length + y272.length < 140737488355328 then ((some (y258 ++ y272 : List Int)).bind fun y275 => ((strings_Join.f x1 (⟨#[]⟩ : ByteArray)).bind fun t278 => (if (strOfNums y275).size + t278.size ≤ 9223372036854775807 then (some ((strOfNums y275) ++ t278, 0)) else (none)))) else (none))) else ((some (([131, (x6 / 65536) % 256, (x6 / 256) % 256, (x6) % 256] : List Int) : List Int)).bind fun y279 => (if y258.length + y279.length < 140737488355328 then ((some (y258 ++ y279 : List Int)).bind fun y282 => ((strings_Join.f x1 (⟨#[]⟩ : ByteArray)).bind fun t285 => (if (strOfNums y282).size + t285.size ≤ 9223372036854775807 then (some ((strOfNums y282) ++ t285, 0)) else (none)))) else (none)))))))
end
def zk.f (k : Nat) (a0 : Int) (l1 : List ByteArray) : Option (ByteArray × Int) := if a0 < 0 then (zk.j0 k a0 l1 true) else (if a0 > 255 then (zk.j0 k a0 l1 true) else (zk.j0 k a0 l1 ((Go.bits .and .i64 a0 31) == 31)))
theorem zk.zv : ∀ k, (∀ y0 y1 y2, LeO (zk.j0 k y0 y1 y2) (zk.j0 (k + 1) y0 y1 y2)) ∧ (∀ y0 y1 y2 y3 y4 y5, LeO (zk.l0 k y0 y1 y2 y3 y4 y5) (zk.l0 (k + 1) y0 y1 y2 y3 y4 y5))
 | 0 => ⟨fun _ _ _ r h => by simp [zk.j0] at h, fun _ _ _ _ _ _ r h => by simp [zk.l0] at h⟩
 | k + 1 => by
  obtain ⟨ih0, ih1⟩ := zk.zv k
  refine ⟨?_, ?_⟩
  ·intro y0 y1 y2
   unfold zk.j0
   repeat' first
   | (with_reducible exact ih0 _ _ _)
   | (with_reducible exact ih1 _ _ _ _ _ _)
   | (with_reducible exact LeO.refl _)
   | (with_reducible exact LeO.none _)
   | (with_reducible refine LeO.ite ?_ ?_)
   | (with_reducible refine LeO.bind ?_ (fun _ => ?_))
  ·intro y0 y1 y2 y3 y4 y5
   unfold zk.l0
   repeat' first
   | (with_reducible exact ih0 _ _ _)
   | (with_reducible exact ih1 _ _ _ _ _ _)
   | (with_reducible exact LeO.refl _)
   | (with_reducible exact LeO.none _)
   | (with_reducible refine LeO.ite ?_ ?_)
   | (with_reducible refine LeO.bind ?_ (fun _ => ?_))
theorem zk.mono : ∀ a0 a1 k, LeO (zk.f k a0 a1) (zk.f (k + 1) a0 a1) := by
 intro a0 a1 k
 obtain ⟨ih0, ih1⟩ := zk.zv k
 unfold zk.f
 repeat' first
   | (with_reducible exact ih0 _ _ _)
   | (with_reducible exact ih1 _ _ _ _ _ _)
   | (with_reducible exact LeO.refl _)
   | (with_reducible exact LeO.none _)
   | (with_reducible refine LeO.ite ?_ ?_)
   | (with_reducible refine LeO.bind ?_ (fun _ => ?_))
set_option maxHeartbeats 8000000 in
set_option maxRecDepth 100000 in
theorem zk.calls (k : Nat) (a0 : Int) (A1 : Option Addr) (c1 : Nat) (l1 : List ByteArray) (r1 : ByteArray) (r2 : Int) (w : World) (hr1 : Kd.C Kd.string w A1 l1.length l1) (hc1 : l1.length ≤ c1) (h : zk.f k a0 l1 = some (r1, r2)) :
  Calls Tryz.prog 61 #[.int .i64 a0, .slice A1 l1.length c1] w fun e w' => e = .returned (.tuple #[.string r1, .int .i64 r2]) ∧ Below w.heap.size w w' := by
 have HR1 := qd.mk hr1
 have HC1 := qd.mk hc1
 clear hr1 hc1
 have HB := qd.mk (Below.refl w.heap.size w)
 have H : (if a0 < 0 then (zk.j0 k a0 l1 true) else (if a0 > 255 then (zk.j0 k a0 l1 true) else (zk.j0 k a0 l1 ((Go.bits .and .i64 a0 31) == 31)))) = some (r1, r2) := h
 clear h
 have HC3 := qd.mk H
 clear H
 go_enter Tryz.func61, Tryz.ntmps61
 go_upto_region 1 with (fail)
 go_cut [20] (fun v20 wc => ∃ (kq : Nat) (x20_2 : Bool), v20 = .bool x20_2 ∧ qd (zk.j0 kq a0 l1 x20_2 = some (r1, r2)) ∧ qd (kq ≤ k) ∧ qd (Below w.heap.size w wc))
 case first =>
  have H := HC3.out
  clear HC3
  by_cases c4 : a0 < 0
  ·rw [if_pos c4] at H
   have c4b0 : decide (a0 < 0) = true := decide_eq_true c4
   clear c4
   (first | rw [c4b0] | (simp only [zg, zi]; rw [c4b0]) | skip)
   have H' := qd.mk H
   clear H
   go_wp2
   go_meet
   case rel => exact ⟨_, (true), yf, H', ⟨by first | omega | exact Nat.le_refl _⟩, ⟨by repeat (first | (with_reducible first | exact HB.out | apply qb | apply qa | apply qc) | exact HB.out)⟩⟩
  ·rw [if_neg c4] at H
   have c4b0 : decide (a0 < 0) = false := decide_eq_false c4
   clear c4
   (first | rw [c4b0] | (simp only [zg, zi]; rw [c4b0]) | skip)
   by_cases c5 : a0 > 255
   ·rw [if_pos c5] at H
    have c5b0 : decide (255 < a0) = true := decide_eq_true c5
    clear c5
    have H' := qd.mk H
    clear H
    go_wp2
    go_meet
    case rel => exact ⟨_, (true), yf, H', ⟨by first | omega | exact Nat.le_refl _⟩, ⟨by repeat (first | (with_reducible first | exact HB.out | apply qb | apply qa | apply qc) | exact HB.out)⟩⟩
   ·rw [if_neg c5] at H
    have c5b0 : decide (255 < a0) = false := decide_eq_false c5
    clear c5
    have H' := qd.mk H
    clear H
    go_wp2
    go_meet
    case rel => exact ⟨_, (((Go.bits .and .i64 a0 31) == 31)), yf, H', ⟨by first | omega | exact Nat.le_refl _⟩, ⟨by repeat (first | (with_reducible first | exact HB.out | apply qb | apply qa | apply qc) | exact HB.out)⟩⟩
 case rest =>
  clear HC3
  (try clear c1); (try clear p2); (try clear c4); (try clear c4b0); (try clear c5); try clear c5b0
  obtain ⟨kq, x20_2, rfl, HA, HJ2, HB⟩ := hcut
  cases kq with
  | zero => exact absurd HA.out (by simp [zk.j0])
  | succ kj2 =>
   have H := HA.out
   clear HA
   simp only [zk.j0] at H
   by_cases c6 : x20_2 = true
   ·subst c6
    have H1 : (some ((⟨#[]⟩ : ByteArray), 5)) = some (r1, r2) := by rw [if_pos rfl] at H; exact H
    clear H
    have H := H1
    clear H1
    simp only [Option.some.injEq, Prod.mk.injEq] at H
    obtain ⟨rfl, rfl⟩ := H
    go_wp2
    go_ret2
    exact ⟨by first | rfl | (simp [qi, qj] <;> rfl) | (simp [*, qi, qj] <;> rfl), by repeat (first | (with_reducible first | exact HB.out | apply qb | apply qa | apply qc) | exact HB.out)⟩
   ·replace c6 := Bool.eq_false_iff.mpr c6
    subst c6
    have H1 : (zk.l0 kj2 a0 l1 0 l1 (l1.length : Int) 0) = some (r1, r2) := by rw [if_neg (show ¬ (false = true) by decide)] at H; exact H
    clear H
    have H := H1
    clear H1
    have H' := qd.mk H
    clear H
    go_wp2
    go_loopg [6, 23] kj2 (fun kq v6 v23 w' => ∃ (x6_2 : Int) (x23_2 : Int), v6 = .int .i64 x6_2 ∧ v23 = .int .i64 x23_2 ∧ qd (zk.l0 kq a0 l1 x6_2 l1 (l1.length : Int) x23_2 = some (r1, r2)) ∧ qd (kq ≤ kj2) ∧ qd (Below w.heap.size w w'))
    case atStart => exact ⟨(0), (0), yf, yf, H', ⟨Nat.le_refl _⟩, ⟨by repeat (first | (with_reducible first | exact HB.out | apply qb | apply qa | apply qc) | exact HB.out)⟩⟩
    case round =>
     clear H'
     (try clear c1); (try clear p2); (try clear c4); (try clear c4b0); (try clear c5); (try clear c5b0); (try clear c6); try clear p2
     obtain ⟨x6_2, x23_2, rfl, rfl, HA, HK2, HB⟩ := hrel
     cases gk with
     | zero => exact absurd HA.out (by simp [zk.l0])
     | succ k2 =>
      have H := HA.out
      clear HA
      simp only [zk.l0] at H
      by_cases c7 : x23_2 < (l1.length : Int)
      ·rw [if_pos c7] at H
       have c7b0 : decide (x23_2 < (l1.length : Int)) = true := decide_eq_true c7
       clear c7
       by_cases c8 : 0 ≤ x23_2
       ·rw [if_pos c8] at H
        have c8b0 : decide (0 ≤ x23_2) = true := decide_eq_true c8
        clear c8
        by_cases c9 : x23_2 < (l1.length : Int)
        ·rw [if_pos c9] at H
         have c9b0 : decide (x23_2 < (l1.length : Int)) = true := decide_eq_true c9
         clear c9
         by_cases c10 : ((rdOf ByteArray.empty l1 x23_2).size : Int) > (wrap64 (131072 - x6_2))
         ·rw [if_pos c10] at H
          have c10b0 : decide ((wrap64 (131072 - x6_2)) < ((rdOf ByteArray.empty l1 x23_2).size : Int)) = true := decide_eq_true c10
          clear c10
          simp only [Option.some.injEq, Prod.mk.injEq] at H
          obtain ⟨rfl, rfl⟩ := H
          have p257 : 0 ≤ (x23_2 : Int) := of_decide_eq_true yc
          have q257 : x23_2 < (l1.length : Int) := of_decide_eq_true yc
          obtain ⟨ad257, e257, hx257_0⟩ := Kd.at_string HR1.out x23_2 p257 q257
          cases e257
          replace hx257_0 := (HB.out.cell (World.block_lt_of_cell? w _ hx257_0)).trans hx257_0
          replace p257 := eq_true p257
          replace q257 := eq_true q257
          go_wp2
          go_ret2
          exact ⟨by first | rfl | (simp [qi, qj] <;> rfl) | (simp [*, qi, qj] <;> rfl), by repeat (first | (with_reducible first | exact HB.out | apply qb | apply qa | apply qc) | exact HB.out)⟩
         ·rw [if_neg c10] at H
          have c10b0 : decide ((wrap64 (131072 - x6_2)) < ((rdOf ByteArray.empty l1 x23_2).size : Int)) = false := decide_eq_false c10
          clear c10
          have H' := qd.mk H
          clear H
          have p257 : 0 ≤ (x23_2 : Int) := of_decide_eq_true yc
          have q257 : x23_2 < (l1.length : Int) := of_decide_eq_true yc
          obtain ⟨ad257, e257, hx257_0⟩ := Kd.at_string HR1.out x23_2 p257 q257
          cases e257
          replace hx257_0 := (HB.out.cell (World.block_lt_of_cell? w _ hx257_0)).trans hx257_0
          replace p257 := eq_true p257
          replace q257 := eq_true q257
          go_wp2
          go_roundg k2
          case measure => have := HJ2.out; have := HK2.out; omega
          case rel => exact ⟨(wrap64 (x6_2 + ((rdOf ByteArray.empty l1 x23_2).size : Int))), (wrap64 (x23_2 + 1)), yf, yf, H', ⟨by have := HJ2.out; have := HK2.out; omega⟩, ⟨by repeat (first | (with_reducible first | exact HB.out | apply qb | apply qa | apply qc) | exact HB.out)⟩⟩
        ·rw [if_neg c9] at H
         exact absurd H y7
       ·rw [if_neg c8] at H
        exact absurd H y7
      ·rw [if_neg c7] at H
       have c7b0 : decide (x23_2 < (l1.length : Int)) = false := decide_eq_false c7
       clear c7
       obtain ⟨y258, hy258⟩ : ∃ y_ : List Int, y_ = (([(a0) % 256] : List Int)) := ⟨_, rfl⟩
       replace H : (if x6_2 < 128 then (if y258.length < 140737488355328 then ((some (y258 ++ [(x6_2) % 256] : List Int)).bind fun y261 => ((strings_Join.f l1 (⟨#[]⟩ : ByteArray)).bind fun t264 => (if (strOfNums y261).size + t264.size ≤ 9223372036854775807 then (some ((strOfNums y261) ++ t264, 0)) else (none)))) else (none)) else (if x6_2 < 256 then ((some (([129, (x6_2) % 256] : List Int) : List Int)).bind fun y265 => (if y258.length + y265.length < 140737488355328 then ((some (y258 ++ y265 : List Int)).bind fun y268 => ((strings_Join.f l1 (⟨#[]⟩ : ByteArray)).bind fun t271 => (if (strOfNums y268).size + t271.size ≤ 9223372036854775807 then (some ((strOfNums y268) ++ t271, 0)) else (none)))) else (none))) else (if x6_2 < 65536 then ((some (([130, (x6_2 / 256) % 256, (x6_2) % 256] : List Int) : List Int)).bind fun y272 => (if y258.length + y272.length < 140737488355328 then ((some (y258 ++ y272 : List Int)).bind fun y275 => ((strings_Join.f l1 (⟨#[]⟩ : ByteArray)).bind fun t278 => (if (strOfNums y275).size + t278.size ≤ 9223372036854775807 then (some ((strOfNums y275) ++ t278, 0)) else (none)))) else (none))) else ((some (([131, (x6_2 / 65536) % 256, (x6_2 / 256) % 256, (x6_2) % 256] : List Int) : List Int)).bind fun y279 => (if y258.length + y279.length < 140737488355328 then ((some (y258 ++ y279 : List Int)).bind fun y282 => ((strings_Join.f l1 (⟨#[]⟩ : ByteArray)).bind fun t285 => (if (strOfNums y282).size + t285.size ≤ 9223372036854775807 then (some ((strOfNums y282) ++ t285, 0)) else (none)))) else (none)))))) = some (r1, r2) := by first | (rw [hy258]; with_reducible exact H) | (have H2_ := (Option.bind_some _ _).symm.trans H; rw [hy258]; with_reducible exact H2_) | (have H2_ := (Option.bind_some _ _).symm.trans H; with_reducible exact H2_) | with_reducible exact H | (rw [hy258]; exact H) | exact H
       have Ny258 := qd.mk hy258
       clear hy258
       by_cases c11 : x6_2 < 128
       ·rw [if_pos c11] at H
        have c11b0 : decide (x6_2 < 128) = true := decide_eq_true c11
        clear c11
        by_cases c12 : y258.length < 140737488355328
        ·rw [if_pos c12] at H
         have LMc12 := qd.mk c12
         clear c12
         obtain ⟨y261, hy261⟩ : ∃ y_ : List Int, y_ = (y258 ++ [(x6_2) % 256]) := ⟨_, rfl⟩
         replace H : ((strings_Join.f l1 (⟨#[]⟩ : ByteArray)).bind fun t264 => (if (strOfNums y261).size + t264.size ≤ 9223372036854775807 then (some ((strOfNums y261) ++ t264, 0)) else (none))) = some (r1, r2) := by first | (rw [hy261]; with_reducible exact H) | (have H2_ := (Option.bind_some _ _).symm.trans H; rw [hy261]; with_reducible exact H2_) | (have H2_ := (Option.bind_some _ _).symm.trans H; with_reducible exact H2_) | with_reducible exact H | (rw [hy261]; exact H) | exact H
         have Ny261 := qd.mk hy261
         clear hy261
         replace H := Option.bind_eq_some_iff.mp H
         obtain ⟨t264, A130, H⟩ := H
         replace H : (if (strOfNums y261).size + t264.size ≤ 9223372036854775807 then (some ((strOfNums y261) ++ t264, 0)) else (none)) = some (r1, r2) := H
         have A13 := qd.mk A130
         clear A130
         by_cases c14 : (strOfNums y261).size + t264.size ≤ 9223372036854775807
         ·rw [if_pos c14] at H
          have c14b0 := eq_true c14
          have c14b1 : decide ((strOfNums y261).size + t264.size ≤ 9223372036854775807) = true := decide_eq_true c14
          try have c14b2 : (9223372036854775807 < (strOfNums y261).size + t264.size) = False := eq_false (Nat.not_lt.2 c14)
          simp only [Option.some.injEq, Prod.mk.injEq] at H
          obtain ⟨rfl, rfl⟩ := H
          try go_wp2_with (first | ((with_reducible refine q8 (N := 39) rfl ?_); refine Kd.R_lit (Kd.int .u8) _ 5 ?hg (N := 39) ?hd (xs := ([(a0) % 256] : List Int)) (inner := [.int .u8 ((a0) % 256)]) (ok := fun _ => True) (okp := fun _ => True) ?hr ?hp (fun _ hk => hk) trivial (Below.refl _ _) (Nat.le_refl _) y7 ?_; (case hd => rfl); (case hg => rfl); (case hr => first | (go_simp; done) | (go_simp; rfl)); (case hp => exact (Reps.one (show Kd.M (Kd.int .u8) _ _ _ ((a0) % 256) [.int .u8 ((a0) % 256)] from rfl) (Reps.none _ _))); intro v259 w15 ho16 hb hg_ hnew_; clear hg_ hnew_; (first | rw [← Ny258.out] at ho16 | (simp only [Int.reduceToNat] at ho16; rw [← Ny258.out] at ho16)); have n0_ := qd.mk (Kd.R_lower ho16 (qo cu)); have n1_ := qd.mk (qf cu hb); clear HB; have HO260 := n0_; have HB := n1_; clear n0_ n1_; clear hb ho16) | ((with_reducible refine xy (b := .append) (xs := #[.tmp 54, .tmp 57]) rfl ?_); at_builtin; refine Kd.R_append (Kd.int .u8) (w0 := w) w.heap.size rfl (.tmp 54) (.tmp 57) 97 5 (.int .u8 0) 1 rfl Tryz.underlying97 info5 rfl (by decide) yo v259 y258 ((x6_2) % 256) [.int .u8 ((x6_2) % 256)] (fun _ => True) (fun _ => False) rfl rfl ?aP (fun _ hk => hk.elim) ?aF ?aO ?aB ?aS ?aL ?_; (case aP => exact rfl); (case aB => exact cu); (case aF => exact (fun _ _ => trivial)); (case aO => exact ug); (case aS => exact (qo cu)); (case aL => have := LMc12.out; omega); intro v262 w17 ho hb hg hat; rw [← Ny261.out] at ho; have n0_ := qd.mk (hb); have n1_ := qd.mk (ho); clear HB; clear HO260; have HB := n0_; have HO263 := n1_; clear n0_ n1_; clear ho hb hg hat))
          have n0_ := qd.mk (Kd.zt HO263.out)
          have n1_ := qd.mk (qc HB.out)
          clear HO263
          clear HB
          have HO263 := n0_
          have HB := n1_
          clear n0_ n1_
          have hcv19 := kj (P := Tryz.prog) Tryz.underlying97 Tryz.underlying5 Tryz.underlying9 (Kd.own_of_R HO263.out)
          refine start_ (n := 7) (S := fun w' => Sem.run Tryz.prog (convert 97 9 v262) w' = .ok (.string (strOfNums y261)) w') (ds := []) #[false, false, false, false, false, false, false] yg rfl rfl hcv19 (fun hHeld => ?_)
          generalize w17.drew = w18 at HO263 HB hHeld ⊢
          refine xf (i := 0) (N := some 78) (v := ?_) (a' := ?_) #[true, false, false, false, false, false, false] rfl rfl yg (fun _ _ _ h => h) (Or.inl ⟨by rfl, ?_⟩) ?_ ?_
          rotate_left
          ·intro w'
           go_simp
           with_reducible rfl
          rotate_left
          ·simp only [Act.put, List.setIfInBounds_toArray, List.set_cons_zero, List.set_cons_succ, zg, zi]
           rfl
          refine take_ (i := 1) (N := some 79) (v := ?_) (a' := ?_) #[true, true, false, false, false, false, false] rfl rfl yg (fun _ _ _ h => h) (Or.inl ⟨by rfl, ?_⟩) hHeld ?_ ?_
          rotate_left
          ·rintro w' s0
           go_simp
           with_reducible rfl
          rotate_left
          ·simp only [Act.put, List.setIfInBounds_toArray, List.set_cons_zero, List.set_cons_succ, zg, zi]
           rfl
          refine xf (i := 2) (N := some 80) (v := ?_) (a' := ?_) #[true, true, true, false, false, false, false] rfl rfl yg (fun _ _ _ h => h) (Or.inl ⟨by rfl, ?_⟩) ?_ ?_
          rotate_left
          ·intro w'
           go_simp
           with_reducible rfl
          rotate_left
          ·simp only [Act.put, List.setIfInBounds_toArray, List.set_cons_zero, List.set_cons_succ, zg, zi]
           rfl
          refine one_ (i := 3) (N := some 81) #[true, true, true, true, false, false, false] rfl rfl yg (by decide) (fun K hK => ?_)
          refine goes_ Tryz.func98 yg rfl #[.slice A1 l1.length c1, .string (⟨#[]⟩ : ByteArray)] (by rfl) rfl rfl cz ?_
          with_reducible refine (strings_Join.calls _ _ l1 (⟨#[]⟩ : ByteArray) t264 _ ?side1 ?side2 A13.out).mono ?_
          (case side1 => repeat (first | exact (Kd.xh HR1.out HB.out) | (with_reducible refine Kd.xm ?_ _) | (with_reducible refine Kd.xl ?_ _) | (with_reducible refine Kd.xx ?_)))
          (case side2 => exact HC1.out)
          rintro e w20 ⟨rfl, hb⟩
          refine ⟨_, rfl, ?_⟩
          have n0_ := qd.mk (Kd.R_below (by (with_reducible repeat (first | apply Kd.zq | apply Kd.zl | apply Kd.zt)); exact HO263.out) hb)
          have n1_ := qd.mk (qf cu hb)
          clear HO263
          clear HB
          have HO263 := n0_
          have HB := n1_
          clear n0_ n1_
          (try clear hb)
          (try clear hb2)
          (try clear hk)
          (try clear hi)
          refine hK.out _ _ (kj (P := Tryz.prog) Tryz.underlying97 Tryz.underlying5 Tryz.underlying9 (Kd.own_of_R HO263.out)) (fun hHeld => ?_)
          clear hK K
          refine norm_ (a' := ?_) ?_ ?_
          rotate_left
          ·show Act.put _ (some 81) _ = _
           simp only [Act.put, List.setIfInBounds_toArray, List.set_cons_zero, List.set_cons_succ, zg, zi]
           rfl
          refine xf (i := 4) (N := some 82) (v := ?_) (a' := ?_) #[true, true, true, true, true, false, false] rfl rfl yg (fun _ _ _ h => h) (Or.inl ⟨by rfl, ?_⟩) ?_ ?_
          rotate_left
          ·intro w'
           go_simp
           with_reducible rfl
          rotate_left
          ·simp only [Act.put, List.setIfInBounds_toArray, List.set_cons_zero, List.set_cons_succ, zg, zi]
           rfl
          refine xf (i := 5) (N := some 4) (v := ?_) (a' := ?_) #[true, true, true, true, true, true, false] rfl rfl yg (fun _ _ _ h => h) (Or.inl ⟨by rfl, ?_⟩) ?_ ?_
          rotate_left
          ·intro w'
           go_simp
           with_reducible rfl
          rotate_left
          ·simp only [Act.put, List.setIfInBounds_toArray, List.set_cons_zero, List.set_cons_succ, zg, zi]
           rfl
          refine xf (i := 6) (N := some 5) (v := ?_) (a' := ?_) #[true, true, true, true, true, true, true] rfl rfl yg (fun _ _ _ h => h) (Or.inl ⟨by rfl, ?_⟩) ?_ ?_
          rotate_left
          ·intro w'
           go_simp
           with_reducible rfl
          rotate_left
          ·simp only [Act.put, List.setIfInBounds_toArray, List.set_cons_zero, List.set_cons_succ, zg, zi]
           rfl
          refine done_ yg ?_
          try go_wp2
          go_ret2
          exact ⟨by first | rfl | (simp [qi, qj] <;> rfl) | (simp [*, qi, qj] <;> rfl), by repeat (first | (with_reducible first | exact HB.out | apply qb | apply qa | apply qc) | exact HB.out)⟩
         ·rw [if_neg c14] at H
          exact absurd H y7
        ·rw [if_neg c12] at H
         exact absurd H y7
       ·rw [if_neg c11] at H
        have c11b0 : decide (x6_2 < 128) = false := decide_eq_false c11
        clear c11
        by_cases c22 : x6_2 < 256
        ·rw [if_pos c22] at H
         have c22b0 : decide (x6_2 < 256) = true := decide_eq_true c22
         clear c22
         obtain ⟨y265, hy265⟩ : ∃ y_ : List Int, y_ = (([129, (x6_2) % 256] : List Int)) := ⟨_, rfl⟩
         replace H : (if y258.length + y265.length < 140737488355328 then ((some (y258 ++ y265 : List Int)).bind fun y268 => ((strings_Join.f l1 (⟨#[]⟩ : ByteArray)).bind fun t271 => (if (strOfNums y268).size + t271.size ≤ 9223372036854775807 then (some ((strOfNums y268) ++ t271, 0)) else (none)))) else (none)) = some (r1, r2) := by first | (rw [hy265]; with_reducible exact H) | (have H2_ := (Option.bind_some _ _).symm.trans H; rw [hy265]; with_reducible exact H2_) | (have H2_ := (Option.bind_some _ _).symm.trans H; with_reducible exact H2_) | with_reducible exact H | (rw [hy265]; exact H) | exact H
         have Ny265 := qd.mk hy265
         clear hy265
         by_cases c23 : y258.length + y265.length < 140737488355328
         ·rw [if_pos c23] at H
          have LMc23 := qd.mk c23
          clear c23
          obtain ⟨y268, hy268⟩ : ∃ y_ : List Int, y_ = (y258 ++ y265) := ⟨_, rfl⟩
          replace H : ((strings_Join.f l1 (⟨#[]⟩ : ByteArray)).bind fun t271 => (if (strOfNums y268).size + t271.size ≤ 9223372036854775807 then (some ((strOfNums y268) ++ t271, 0)) else (none))) = some (r1, r2) := by first | (rw [hy268]; with_reducible exact H) | (have H2_ := (Option.bind_some _ _).symm.trans H; rw [hy268]; with_reducible exact H2_) | (have H2_ := (Option.bind_some _ _).symm.trans H; with_reducible exact H2_) | with_reducible exact H | (rw [hy268]; exact H) | exact H
          have Ny268 := qd.mk hy268
          clear hy268
          replace H := Option.bind_eq_some_iff.mp H
          obtain ⟨t271, A240, H⟩ := H
          replace H : (if (strOfNums y268).size + t271.size ≤ 9223372036854775807 then (some ((strOfNums y268) ++ t271, 0)) else (none)) = some (r1, r2) := H
          have A24 := qd.mk A240
          clear A240
          by_cases c25 : (strOfNums y268).size + t271.size ≤ 9223372036854775807
          ·rw [if_pos c25] at H
           have c25b0 := eq_true c25
           have c25b1 : decide ((strOfNums y268).size + t271.size ≤ 9223372036854775807) = true := decide_eq_true c25
           try have c25b2 : (9223372036854775807 < (strOfNums y268).size + t271.size) = False := eq_false (Nat.not_lt.2 c25)
           simp only [Option.some.injEq, Prod.mk.injEq] at H
           obtain ⟨rfl, rfl⟩ := H
           try go_wp2_with (first | ((with_reducible refine q8 (N := 39) rfl ?_); refine Kd.R_lit (Kd.int .u8) _ 5 ?hg (N := 39) ?hd (xs := ([(a0) % 256] : List Int)) (inner := [.int .u8 ((a0) % 256)]) (ok := fun _ => True) (okp := fun _ => True) ?hr ?hp (fun _ hk => hk) trivial (Below.refl _ _) (Nat.le_refl _) y7 ?_; (case hd => rfl); (case hg => rfl); (case hr => first | (go_simp; done) | (go_simp; rfl)); (case hp => exact (Reps.one (show Kd.M (Kd.int .u8) _ _ _ ((a0) % 256) [.int .u8 ((a0) % 256)] from rfl) (Reps.none _ _))); intro v259 w26 ho27 hb hg_ hnew_; clear hg_ hnew_; (first | rw [← Ny258.out] at ho27 | (simp only [Int.reduceToNat] at ho27; rw [← Ny258.out] at ho27)); have n0_ := qd.mk (Kd.R_lower ho27 (qo cu)); have n1_ := qd.mk (qf cu hb); clear HB; have HO260 := n0_; have HB := n1_; clear n0_ n1_; clear hb ho27) | ((with_reducible refine q8 (N := 65) rfl ?_); refine Kd.R_lit (Kd.int .u8) _ 5 ?hg (N := 65) ?hd (xs := ([129, (x6_2) % 256] : List Int)) (inner := [.int .u8 129, .int .u8 ((x6_2) % 256)]) (ok := fun _ => True) (okp := fun _ => True) ?hr ?hp (fun _ hk => hk) trivial (Below.refl _ _) (Nat.le_refl _) y7 ?_; (case hd => rfl); (case hg => rfl); (case hr => first | (go_simp; done) | (go_simp; rfl)); (case hp => exact (Reps.one (show Kd.M (Kd.int .u8) _ _ _ 129 [.int .u8 129] from rfl) (Reps.one (show Kd.M (Kd.int .u8) _ _ _ ((x6_2) % 256) [.int .u8 ((x6_2) % 256)] from rfl) (Reps.none _ _)))); intro v266 w28 ho29 hb hg_ hnew_; clear hg_ hnew_; (first | rw [← Ny265.out] at ho29 | (simp only [Int.reduceToNat] at ho29; rw [← Ny265.out] at ho29)); have n0_ := qd.mk (Kd.R_elder' ug (Kd.R_base ho29) hb); have n1_ := qd.mk (Kd.R_lower (Kd.R_new' ho29 (Kd.R_lt ug)) (qo cu)); have n2_ := qd.mk (qf cu hb); clear HO260; clear HB; have HO260 := n0_; have HO267 := n1_; have HB := n2_; clear n0_ n1_ n2_; clear hb ho29; obtain ⟨Ao31, co31, eo31⟩ := Kd.R_slice HO267.out; subst eo31) | ((with_reducible refine xy (b := .append) (xs := #[.tmp 62, .tmp 65]) rfl ?_); at_builtin; refine Kd.R_append_rows (Kd.int .u8) (w0 := w) w.heap.size rfl (.tmp 62) (.tmp 65) 97 5 (.int .u8 0) 1 rfl Tryz.underlying97 info5 rfl (by decide) yo v259 y258 y265 _ _ _ (fun k_ => some k_ ≠ (.slice Ao31 y265.length co31 : Value).ownBlock) (fun _ => False) rfl rfl ?aO ?aR (fun _ _ h => h) (fun _ h => h.elim) ?aF ?aB ?aS ?aL ?_; (case aR => repeat (first | exact (Kd.R_reads' HO267.out).2.2 | (with_reducible refine Kd.xm ?_ _) | (with_reducible refine Kd.xl ?_ _) | (with_reducible refine Kd.xx ?_))); (case aB => exact cu); (case aF => exact (fun k_ hk => Kd.fresh' (Kd.R_lt ut) k_ hk)); (case aO => exact (by (with_reducible repeat (first | apply Kd.zq | apply Kd.zl | apply Kd.zt)); exact Kd.x2 HO260.out (fun _ hk => hk.2))); (case aS => exact (qo cu)); (case aL => have := LMc23.out; omega); intro v269 w30 ho hb hg hat; rw [← Ny268.out] at ho; have n0_ := qd.mk (Kd.R_after (ok := (fun _ => True)) ut hg hat); have n1_ := qd.mk (hb); have n2_ := qd.mk (ho); clear HO267; clear HB; clear HO260; have HO267 := n0_; have HB := n1_; have HO270 := n2_; clear n0_ n1_ n2_; clear ho hb hg hat))
           have n0_ := qd.mk (Kd.zt HO267.out)
           have n1_ := qd.mk (Kd.zt HO270.out)
           have n2_ := qd.mk (qc HB.out)
           clear HO267
           clear HO270
           clear HB
           have HO267 := n0_
           have HO270 := n1_
           have HB := n2_
           clear n0_ n1_ n2_
           have hcv33 := kj (P := Tryz.prog) Tryz.underlying97 Tryz.underlying5 Tryz.underlying9 (Kd.own_of_R HO270.out)
           refine start_ (n := 7) (S := fun w' => Sem.run Tryz.prog (convert 97 9 v269) w' = .ok (.string (strOfNums y268)) w') (ds := []) #[false, false, false, false, false, false, false] yg rfl rfl hcv33 (fun hHeld => ?_)
           generalize w30.drew = w32 at HO267 HO270 HB hHeld ⊢
           refine xf (i := 0) (N := some 78) (v := ?_) (a' := ?_) #[true, false, false, false, false, false, false] rfl rfl yg (fun _ _ _ h => h) (Or.inl ⟨by rfl, ?_⟩) ?_ ?_
           rotate_left
           ·intro w'
            go_simp
            with_reducible rfl
           rotate_left
           ·simp only [Act.put, List.setIfInBounds_toArray, List.set_cons_zero, List.set_cons_succ, zg, zi]
            rfl
           refine take_ (i := 1) (N := some 79) (v := ?_) (a' := ?_) #[true, true, false, false, false, false, false] rfl rfl yg (fun _ _ _ h => h) (Or.inl ⟨by rfl, ?_⟩) hHeld ?_ ?_
           rotate_left
           ·rintro w' s0
            go_simp
            with_reducible rfl
           rotate_left
           ·simp only [Act.put, List.setIfInBounds_toArray, List.set_cons_zero, List.set_cons_succ, zg, zi]
            rfl
           refine xf (i := 2) (N := some 80) (v := ?_) (a' := ?_) #[true, true, true, false, false, false, false] rfl rfl yg (fun _ _ _ h => h) (Or.inl ⟨by rfl, ?_⟩) ?_ ?_
           rotate_left
           ·intro w'
            go_simp
            with_reducible rfl
           rotate_left
           ·simp only [Act.put, List.setIfInBounds_toArray, List.set_cons_zero, List.set_cons_succ, zg, zi]
            rfl
           refine one_ (i := 3) (N := some 81) #[true, true, true, true, false, false, false] rfl rfl yg (by decide) (fun K hK => ?_)
           refine goes_ Tryz.func98 yg rfl #[.slice A1 l1.length c1, .string (⟨#[]⟩ : ByteArray)] (by rfl) rfl rfl cz ?_
           with_reducible refine (strings_Join.calls _ _ l1 (⟨#[]⟩ : ByteArray) t271 _ ?side1 ?side2 A24.out).mono ?_
           (case side1 => repeat (first | exact (Kd.xh HR1.out HB.out) | (with_reducible refine Kd.xm ?_ _) | (with_reducible refine Kd.xl ?_ _) | (with_reducible refine Kd.xx ?_)))
           (case side2 => exact HC1.out)
           rintro e w34 ⟨rfl, hb⟩
           refine ⟨_, rfl, ?_⟩
           have n0_ := qd.mk (Kd.R_below ut hb)
           have n1_ := qd.mk (Kd.R_below (by (with_reducible repeat (first | apply Kd.zq | apply Kd.zl | apply Kd.zt)); exact HO270.out) hb)
           have n2_ := qd.mk (qf cu hb)
           clear HO267
           clear HO270
           clear HB
           have HO267 := n0_
           have HO270 := n1_
           have HB := n2_
           clear n0_ n1_ n2_
           (try clear hb)
           (try clear hb2)
           (try clear hk)
           (try clear hi)
           refine hK.out _ _ (kj (P := Tryz.prog) Tryz.underlying97 Tryz.underlying5 Tryz.underlying9 (Kd.own_of_R HO270.out)) (fun hHeld => ?_)
           clear hK K
           refine norm_ (a' := ?_) ?_ ?_
           rotate_left
           ·show Act.put _ (some 81) _ = _
            simp only [Act.put, List.setIfInBounds_toArray, List.set_cons_zero, List.set_cons_succ, zg, zi]
            rfl
           refine xf (i := 4) (N := some 82) (v := ?_) (a' := ?_) #[true, true, true, true, true, false, false] rfl rfl yg (fun _ _ _ h => h) (Or.inl ⟨by rfl, ?_⟩) ?_ ?_
           rotate_left
           ·intro w'
            go_simp
            with_reducible rfl
           rotate_left
           ·simp only [Act.put, List.setIfInBounds_toArray, List.set_cons_zero, List.set_cons_succ, zg, zi]
            rfl
           refine xf (i := 5) (N := some 4) (v := ?_) (a' := ?_) #[true, true, true, true, true, true, false] rfl rfl yg (fun _ _ _ h => h) (Or.inl ⟨by rfl, ?_⟩) ?_ ?_
           rotate_left
           ·intro w'
            go_simp
            with_reducible rfl
           rotate_left
           ·simp only [Act.put, List.setIfInBounds_toArray, List.set_cons_zero, List.set_cons_succ, zg, zi]
            rfl
           refine xf (i := 6) (N := some 5) (v := ?_) (a' := ?_) #[true, true, true, true, true, true, true] rfl rfl yg (fun _ _ _ h => h) (Or.inl ⟨by rfl, ?_⟩) ?_ ?_
           rotate_left
           ·intro w'
            go_simp
            with_reducible rfl
           rotate_left
           ·simp only [Act.put, List.setIfInBounds_toArray, List.set_cons_zero, List.set_cons_succ, zg, zi]
            rfl
           refine done_ yg ?_
           try go_wp2
           go_ret2
           exact ⟨by first | rfl | (simp [qi, qj] <;> rfl) | (simp [*, qi, qj] <;> rfl), by repeat (first | (with_reducible first | exact HB.out | apply qb | apply qa | apply qc) | exact HB.out)⟩
          ·rw [if_neg c25] at H
           exact absurd H y7
         ·rw [if_neg c23] at H
          exact absurd H y7
        ·rw [if_neg c22] at H
         have c22b0 : decide (x6_2 < 256) = false := decide_eq_false c22
         clear c22
         by_cases c36 : x6_2 < 65536
         ·rw [if_pos c36] at H
          have c36b0 : decide (x6_2 < 65536) = true := decide_eq_true c36
          clear c36
          obtain ⟨y272, hy272⟩ : ∃ y_ : List Int, y_ = (([130, (x6_2 / 256) % 256, (x6_2) % 256] : List Int)) := ⟨_, rfl⟩
          replace H : (if y258.length + y272.length < 140737488355328 then ((some (y258 ++ y272 : List Int)).bind fun y275 => ((strings_Join.f l1 (⟨#[]⟩ : ByteArray)).bind fun t278 => (if (strOfNums y275).size + t278.size ≤ 9223372036854775807 then (some ((strOfNums y275) ++ t278, 0)) else (none)))) else (none)) = some (r1, r2) := by first | (rw [hy272]; with_reducible exact H) | (have H2_ := (Option.bind_some _ _).symm.trans H; rw [hy272]; with_reducible exact H2_) | (have H2_ := (Option.bind_some _ _).symm.trans H; with_reducible exact H2_) | with_reducible exact H | (rw [hy272]; exact H) | exact H
          have Ny272 := qd.mk hy272
          clear hy272
          by_cases c37 : y258.length + y272.length < 140737488355328
          ·rw [if_pos c37] at H
           have LMc37 := qd.mk c37
           clear c37
           obtain ⟨y275, hy275⟩ : ∃ y_ : List Int, y_ = (y258 ++ y272) := ⟨_, rfl⟩
           replace H : ((strings_Join.f l1 (⟨#[]⟩ : ByteArray)).bind fun t278 => (if (strOfNums y275).size + t278.size ≤ 9223372036854775807 then (some ((strOfNums y275) ++ t278, 0)) else (none))) = some (r1, r2) := by first | (rw [hy275]; with_reducible exact H) | (have H2_ := (Option.bind_some _ _).symm.trans H; rw [hy275]; with_reducible exact H2_) | (have H2_ := (Option.bind_some _ _).symm.trans H; with_reducible exact H2_) | with_reducible exact H | (rw [hy275]; exact H) | exact H
           have Ny275 := qd.mk hy275
           clear hy275
           replace H := Option.bind_eq_some_iff.mp H
           obtain ⟨t278, A380, H⟩ := H
           replace H : (if (strOfNums y275).size + t278.size ≤ 9223372036854775807 then (some ((strOfNums y275) ++ t278, 0)) else (none)) = some (r1, r2) := H
           have A38 := qd.mk A380
           clear A380
           by_cases c39 : (strOfNums y275).size + t278.size ≤ 9223372036854775807
           ·rw [if_pos c39] at H
            have c39b0 := eq_true c39
            have c39b1 : decide ((strOfNums y275).size + t278.size ≤ 9223372036854775807) = true := decide_eq_true c39
            try have c39b2 : (9223372036854775807 < (strOfNums y275).size + t278.size) = False := eq_false (Nat.not_lt.2 c39)
            simp only [Option.some.injEq, Prod.mk.injEq] at H
            obtain ⟨rfl, rfl⟩ := H
            try go_wp2_with (first | ((with_reducible refine q8 (N := 39) rfl ?_); refine Kd.R_lit (Kd.int .u8) _ 5 ?hg (N := 39) ?hd (xs := ([(a0) % 256] : List Int)) (inner := [.int .u8 ((a0) % 256)]) (ok := fun _ => True) (okp := fun _ => True) ?hr ?hp (fun _ hk => hk) trivial (Below.refl _ _) (Nat.le_refl _) y7 ?_; (case hd => rfl); (case hg => rfl); (case hr => first | (go_simp; done) | (go_simp; rfl)); (case hp => exact (Reps.one (show Kd.M (Kd.int .u8) _ _ _ ((a0) % 256) [.int .u8 ((a0) % 256)] from rfl) (Reps.none _ _))); intro v259 w40 ho41 hb hg_ hnew_; clear hg_ hnew_; (first | rw [← Ny258.out] at ho41 | (simp only [Int.reduceToNat] at ho41; rw [← Ny258.out] at ho41)); have n0_ := qd.mk (Kd.R_lower ho41 (qo cu)); have n1_ := qd.mk (qf cu hb); clear HB; have HO260 := n0_; have HB := n1_; clear n0_ n1_; clear hb ho41) | ((with_reducible refine q8 (N := 76) rfl ?_); refine Kd.R_lit (Kd.int .u8) _ 5 ?hg (N := 76) ?hd (xs := ([130, (x6_2 / 256) % 256, (x6_2) % 256] : List Int)) (inner := [.int .u8 130, .int .u8 ((x6_2 / 256) % 256), .int .u8 ((x6_2) % 256)]) (ok := fun _ => True) (okp := fun _ => True) ?hr ?hp (fun _ hk => hk) trivial (Below.refl _ _) (Nat.le_refl _) y7 ?_; (case hd => rfl); (case hg => rfl); (case hr => first | (go_simp; done) | (go_simp; rfl)); (case hp => exact (Reps.one (show Kd.M (Kd.int .u8) _ _ _ 130 [.int .u8 130] from rfl) (Reps.one (show Kd.M (Kd.int .u8) _ _ _ ((x6_2 / 256) % 256) [.int .u8 ((x6_2 / 256) % 256)] from rfl) (Reps.one (show Kd.M (Kd.int .u8) _ _ _ ((x6_2) % 256) [.int .u8 ((x6_2) % 256)] from rfl) (Reps.none _ _))))); intro v273 w42 ho43 hb hg_ hnew_; clear hg_ hnew_; (first | rw [← Ny272.out] at ho43 | (simp only [Int.reduceToNat] at ho43; rw [← Ny272.out] at ho43)); have n0_ := qd.mk (Kd.R_elder' ug (Kd.R_base ho43) hb); have n1_ := qd.mk (Kd.R_lower (Kd.R_new' ho43 (Kd.R_lt ug)) (qo cu)); have n2_ := qd.mk (qf cu hb); clear HO260; clear HB; have HO260 := n0_; have HO274 := n1_; have HB := n2_; clear n0_ n1_ n2_; clear hb ho43; obtain ⟨Ao45, co45, eo45⟩ := Kd.R_slice HO274.out; subst eo45) | ((with_reducible refine xy (b := .append) (xs := #[.tmp 70, .tmp 76]) rfl ?_); at_builtin; refine Kd.R_append_rows (Kd.int .u8) (w0 := w) w.heap.size rfl (.tmp 70) (.tmp 76) 97 5 (.int .u8 0) 1 rfl Tryz.underlying97 info5 rfl (by decide) yo v259 y258 y272 _ _ _ (fun k_ => some k_ ≠ (.slice Ao45 y272.length co45 : Value).ownBlock) (fun _ => False) rfl rfl ?aO ?aR (fun _ _ h => h) (fun _ h => h.elim) ?aF ?aB ?aS ?aL ?_; (case aR => repeat (first | exact (Kd.R_reads' HO274.out).2.2 | (with_reducible refine Kd.xm ?_ _) | (with_reducible refine Kd.xl ?_ _) | (with_reducible refine Kd.xx ?_))); (case aB => exact cu); (case aF => exact (fun k_ hk => Kd.fresh' (Kd.R_lt uq) k_ hk)); (case aO => exact (by (with_reducible repeat (first | apply Kd.zq | apply Kd.zl | apply Kd.zt)); exact Kd.x2 HO260.out (fun _ hk => hk.2))); (case aS => exact (qo cu)); (case aL => have := LMc37.out; omega); intro v276 w44 ho hb hg hat; rw [← Ny275.out] at ho; have n0_ := qd.mk (Kd.R_after (ok := (fun _ => True)) uq hg hat); have n1_ := qd.mk (hb); have n2_ := qd.mk (ho); clear HO274; clear HB; clear HO260; have HO274 := n0_; have HB := n1_; have HO277 := n2_; clear n0_ n1_ n2_; clear ho hb hg hat))
            have n0_ := qd.mk (Kd.zt HO274.out)
            have n1_ := qd.mk (Kd.zt HO277.out)
            have n2_ := qd.mk (qc HB.out)
            clear HO274
            clear HO277
            clear HB
            have HO274 := n0_
            have HO277 := n1_
            have HB := n2_
            clear n0_ n1_ n2_
            have hcv47 := kj (P := Tryz.prog) Tryz.underlying97 Tryz.underlying5 Tryz.underlying9 (Kd.own_of_R HO277.out)
            refine start_ (n := 7) (S := fun w' => Sem.run Tryz.prog (convert 97 9 v276) w' = .ok (.string (strOfNums y275)) w') (ds := []) #[false, false, false, false, false, false, false] yg rfl rfl hcv47 (fun hHeld => ?_)
            generalize w44.drew = w46 at HO274 HO277 HB hHeld ⊢
            refine xf (i := 0) (N := some 78) (v := ?_) (a' := ?_) #[true, false, false, false, false, false, false] rfl rfl yg (fun _ _ _ h => h) (Or.inl ⟨by rfl, ?_⟩) ?_ ?_
            rotate_left
            ·intro w'
             go_simp
             with_reducible rfl
            rotate_left
            ·simp only [Act.put, List.setIfInBounds_toArray, List.set_cons_zero, List.set_cons_succ, zg, zi]
             rfl
            refine take_ (i := 1) (N := some 79) (v := ?_) (a' := ?_) #[true, true, false, false, false, false, false] rfl rfl yg (fun _ _ _ h => h) (Or.inl ⟨by rfl, ?_⟩) hHeld ?_ ?_
            rotate_left
            ·rintro w' s0
             go_simp
             with_reducible rfl
            rotate_left
            ·simp only [Act.put, List.setIfInBounds_toArray, List.set_cons_zero, List.set_cons_succ, zg, zi]
             rfl
            refine xf (i := 2) (N := some 80) (v := ?_) (a' := ?_) #[true, true, true, false, false, false, false] rfl rfl yg (fun _ _ _ h => h) (Or.inl ⟨by rfl, ?_⟩) ?_ ?_
            rotate_left
            ·intro w'
             go_simp
             with_reducible rfl
            rotate_left
            ·simp only [Act.put, List.setIfInBounds_toArray, List.set_cons_zero, List.set_cons_succ, zg, zi]
             rfl
            refine one_ (i := 3) (N := some 81) #[true, true, true, true, false, false, false] rfl rfl yg (by decide) (fun K hK => ?_)
            refine goes_ Tryz.func98 yg rfl #[.slice A1 l1.length c1, .string (⟨#[]⟩ : ByteArray)] (by rfl) rfl rfl cz ?_
            with_reducible refine (strings_Join.calls _ _ l1 (⟨#[]⟩ : ByteArray) t278 _ ?side1 ?side2 A38.out).mono ?_
            (case side1 => repeat (first | exact (Kd.xh HR1.out HB.out) | (with_reducible refine Kd.xm ?_ _) | (with_reducible refine Kd.xl ?_ _) | (with_reducible refine Kd.xx ?_)))
            (case side2 => exact HC1.out)
            rintro e w48 ⟨rfl, hb⟩
            refine ⟨_, rfl, ?_⟩
            have n0_ := qd.mk (Kd.R_below uq hb)
            have n1_ := qd.mk (Kd.R_below (by (with_reducible repeat (first | apply Kd.zq | apply Kd.zl | apply Kd.zt)); exact HO277.out) hb)
            have n2_ := qd.mk (qf cu hb)
            clear HO274
            clear HO277
            clear HB
            have HO274 := n0_
            have HO277 := n1_
            have HB := n2_
            clear n0_ n1_ n2_
            (try clear hb)
            (try clear hb2)
            (try clear hk)
            (try clear hi)
            refine hK.out _ _ (kj (P := Tryz.prog) Tryz.underlying97 Tryz.underlying5 Tryz.underlying9 (Kd.own_of_R HO277.out)) (fun hHeld => ?_)
            clear hK K
            refine norm_ (a' := ?_) ?_ ?_
            rotate_left
            ·show Act.put _ (some 81) _ = _
             simp only [Act.put, List.setIfInBounds_toArray, List.set_cons_zero, List.set_cons_succ, zg, zi]
             rfl
            refine xf (i := 4) (N := some 82) (v := ?_) (a' := ?_) #[true, true, true, true, true, false, false] rfl rfl yg (fun _ _ _ h => h) (Or.inl ⟨by rfl, ?_⟩) ?_ ?_
            rotate_left
            ·intro w'
             go_simp
             with_reducible rfl
            rotate_left
            ·simp only [Act.put, List.setIfInBounds_toArray, List.set_cons_zero, List.set_cons_succ, zg, zi]
             rfl
            refine xf (i := 5) (N := some 4) (v := ?_) (a' := ?_) #[true, true, true, true, true, true, false] rfl rfl yg (fun _ _ _ h => h) (Or.inl ⟨by rfl, ?_⟩) ?_ ?_
            rotate_left
            ·intro w'
             go_simp
             with_reducible rfl
            rotate_left
            ·simp only [Act.put, List.setIfInBounds_toArray, List.set_cons_zero, List.set_cons_succ, zg, zi]
             rfl
            refine xf (i := 6) (N := some 5) (v := ?_) (a' := ?_) #[true, true, true, true, true, true, true] rfl rfl yg (fun _ _ _ h => h) (Or.inl ⟨by rfl, ?_⟩) ?_ ?_
            rotate_left
            ·intro w'
             go_simp
             with_reducible rfl
            rotate_left
            ·simp only [Act.put, List.setIfInBounds_toArray, List.set_cons_zero, List.set_cons_succ, zg, zi]
             rfl
            refine done_ yg ?_
            try go_wp2
            go_ret2
            exact ⟨by first | rfl | (simp [qi, qj] <;> rfl) | (simp [*, qi, qj] <;> rfl), by repeat (first | (with_reducible first | exact HB.out | apply qb | apply qa | apply qc) | exact HB.out)⟩
           ·rw [if_neg c39] at H
            exact absurd H y7
          ·rw [if_neg c37] at H
           exact absurd H y7
         ·rw [if_neg c36] at H
          have c36b0 : decide (x6_2 < 65536) = false := decide_eq_false c36
          clear c36
          obtain ⟨y279, hy279⟩ : ∃ y_ : List Int, y_ = (([131, (x6_2 / 65536) % 256, (x6_2 / 256) % 256, (x6_2) % 256] : List Int)) := ⟨_, rfl⟩
          replace H : (if y258.length + y279.length < 140737488355328 then ((some (y258 ++ y279 : List Int)).bind fun y282 => ((strings_Join.f l1 (⟨#[]⟩ : ByteArray)).bind fun t285 => (if (strOfNums y282).size + t285.size ≤ 9223372036854775807 then (some ((strOfNums y282) ++ t285, 0)) else (none)))) else (none)) = some (r1, r2) := by first | (rw [hy279]; with_reducible exact H) | (have H2_ := (Option.bind_some _ _).symm.trans H; rw [hy279]; with_reducible exact H2_) | (have H2_ := (Option.bind_some _ _).symm.trans H; with_reducible exact H2_) | with_reducible exact H | (rw [hy279]; exact H) | exact H
          have Ny279 := qd.mk hy279
          clear hy279
          by_cases c50 : y258.length + y279.length < 140737488355328
          ·rw [if_pos c50] at H
           have LMc50 := qd.mk c50
           clear c50
           obtain ⟨y282, hy282⟩ : ∃ y_ : List Int, y_ = (y258 ++ y279) := ⟨_, rfl⟩
           replace H : ((strings_Join.f l1 (⟨#[]⟩ : ByteArray)).bind fun t285 => (if (strOfNums y282).size + t285.size ≤ 9223372036854775807 then (some ((strOfNums y282) ++ t285, 0)) else (none))) = some (r1, r2) := by first | (rw [hy282]; with_reducible exact H) | (have H2_ := (Option.bind_some _ _).symm.trans H; rw [hy282]; with_reducible exact H2_) | (have H2_ := (Option.bind_some _ _).symm.trans H; with_reducible exact H2_) | with_reducible exact H | (rw [hy282]; exact H) | exact H
           have Ny282 := qd.mk hy282
           clear hy282
           replace H := Option.bind_eq_some_iff.mp H
           obtain ⟨t285, A510, H⟩ := H
           replace H : (if (strOfNums y282).size + t285.size ≤ 9223372036854775807 then (some ((strOfNums y282) ++ t285, 0)) else (none)) = some (r1, r2) := H
           have A51 := qd.mk A510
           clear A510
           by_cases c52 : (strOfNums y282).size + t285.size ≤ 9223372036854775807
           ·rw [if_pos c52] at H
            have c52b0 := eq_true c52
            have c52b1 : decide ((strOfNums y282).size + t285.size ≤ 9223372036854775807) = true := decide_eq_true c52
            try have c52b2 : (9223372036854775807 < (strOfNums y282).size + t285.size) = False := eq_false (Nat.not_lt.2 c52)
            simp only [Option.some.injEq, Prod.mk.injEq] at H
            obtain ⟨rfl, rfl⟩ := H
            try go_wp2_with (first | ((with_reducible refine q8 (N := 39) rfl ?_); refine Kd.R_lit (Kd.int .u8) _ 5 ?hg (N := 39) ?hd (xs := ([(a0) % 256] : List Int)) (inner := [.int .u8 ((a0) % 256)]) (ok := fun _ => True) (okp := fun _ => True) ?hr ?hp (fun _ hk => hk) trivial (Below.refl _ _) (Nat.le_refl _) y7 ?_; (case hd => rfl); (case hg => rfl); (case hr => first | (go_simp; done) | (go_simp; rfl)); (case hp => exact (Reps.one (show Kd.M (Kd.int .u8) _ _ _ ((a0) % 256) [.int .u8 ((a0) % 256)] from rfl) (Reps.none _ _))); intro v259 w53 ho54 hb hg_ hnew_; clear hg_ hnew_; (first | rw [← Ny258.out] at ho54 | (simp only [Int.reduceToNat] at ho54; rw [← Ny258.out] at ho54)); have n0_ := qd.mk (Kd.R_lower ho54 (qo cu)); have n1_ := qd.mk (qf cu hb); clear HB; have HO260 := n0_; have HB := n1_; clear n0_ n1_; clear hb ho54) | ((with_reducible refine q8 (N := 49) rfl ?_); refine Kd.R_lit (Kd.int .u8) _ 5 ?hg (N := 49) ?hd (xs := ([131, (x6_2 / 65536) % 256, (x6_2 / 256) % 256, (x6_2) % 256] : List Int)) (inner := [.int .u8 131, .int .u8 ((x6_2 / 65536) % 256), .int .u8 ((x6_2 / 256) % 256), .int .u8 ((x6_2) % 256)]) (ok := fun _ => True) (okp := fun _ => True) ?hr ?hp (fun _ hk => hk) trivial (Below.refl _ _) (Nat.le_refl _) y7 ?_; (case hd => rfl); (case hg => rfl); (case hr => first | (go_simp; done) | (go_simp; rfl)); (case hp => exact (Reps.one (show Kd.M (Kd.int .u8) _ _ _ 131 [.int .u8 131] from rfl) (Reps.one (show Kd.M (Kd.int .u8) _ _ _ ((x6_2 / 65536) % 256) [.int .u8 ((x6_2 / 65536) % 256)] from rfl) (Reps.one (show Kd.M (Kd.int .u8) _ _ _ ((x6_2 / 256) % 256) [.int .u8 ((x6_2 / 256) % 256)] from rfl) (Reps.one (show Kd.M (Kd.int .u8) _ _ _ ((x6_2) % 256) [.int .u8 ((x6_2) % 256)] from rfl) (Reps.none _ _)))))); intro v280 w55 ho56 hb hg_ hnew_; clear hg_ hnew_; (first | rw [← Ny279.out] at ho56 | (simp only [Int.reduceToNat] at ho56; rw [← Ny279.out] at ho56)); have n0_ := qd.mk (Kd.R_elder' ug (Kd.R_base ho56) hb); have n1_ := qd.mk (Kd.R_lower (Kd.R_new' ho56 (Kd.R_lt ug)) (qo cu)); have n2_ := qd.mk (qf cu hb); clear HO260; clear HB; have HO260 := n0_; have HO281 := n1_; have HB := n2_; clear n0_ n1_ n2_; clear hb ho56; obtain ⟨Ao58, co58, eo58⟩ := Kd.R_slice HO281.out; subst eo58) | ((with_reducible refine xy (b := .append) (xs := #[.tmp 40, .tmp 49]) rfl ?_); at_builtin; refine Kd.R_append_rows (Kd.int .u8) (w0 := w) w.heap.size rfl (.tmp 40) (.tmp 49) 97 5 (.int .u8 0) 1 rfl Tryz.underlying97 info5 rfl (by decide) yo v259 y258 y279 _ _ _ (fun k_ => some k_ ≠ (.slice Ao58 y279.length co58 : Value).ownBlock) (fun _ => False) rfl rfl ?aO ?aR (fun _ _ h => h) (fun _ h => h.elim) ?aF ?aB ?aS ?aL ?_; (case aR => repeat (first | exact (Kd.R_reads' HO281.out).2.2 | (with_reducible refine Kd.xm ?_ _) | (with_reducible refine Kd.xl ?_ _) | (with_reducible refine Kd.xx ?_))); (case aB => exact cu); (case aF => exact (fun k_ hk => Kd.fresh' (Kd.R_lt uo) k_ hk)); (case aO => exact (by (with_reducible repeat (first | apply Kd.zq | apply Kd.zl | apply Kd.zt)); exact Kd.x2 HO260.out (fun _ hk => hk.2))); (case aS => exact (qo cu)); (case aL => have := LMc50.out; omega); intro v283 w57 ho hb hg hat; rw [← Ny282.out] at ho; have n0_ := qd.mk (Kd.R_after (ok := (fun _ => True)) uo hg hat); have n1_ := qd.mk (hb); have n2_ := qd.mk (ho); clear HO281; clear HB; clear HO260; have HO281 := n0_; have HB := n1_; have HO284 := n2_; clear n0_ n1_ n2_; clear ho hb hg hat))
            have n0_ := qd.mk (Kd.zt HO281.out)
            have n1_ := qd.mk (Kd.zt HO284.out)
            have n2_ := qd.mk (qc HB.out)
            clear HO281
            clear HO284
            clear HB
            have HO281 := n0_
            have HO284 := n1_
            have HB := n2_
            clear n0_ n1_ n2_
            have hcv60 := kj (P := Tryz.prog) Tryz.underlying97 Tryz.underlying5 Tryz.underlying9 (Kd.own_of_R HO284.out)
            refine start_ (n := 7) (S := fun w' => Sem.run Tryz.prog (convert 97 9 v283) w' = .ok (.string (strOfNums y282)) w') (ds := []) #[false, false, false, false, false, false, false] yg rfl rfl hcv60 (fun hHeld => ?_)
            generalize w57.drew = w59 at HO281 HO284 HB hHeld ⊢
            refine xf (i := 0) (N := some 78) (v := ?_) (a' := ?_) #[true, false, false, false, false, false, false] rfl rfl yg (fun _ _ _ h => h) (Or.inl ⟨by rfl, ?_⟩) ?_ ?_
            rotate_left
            ·intro w'
             go_simp
             with_reducible rfl
            rotate_left
            ·simp only [Act.put, List.setIfInBounds_toArray, List.set_cons_zero, List.set_cons_succ, zg, zi]
             rfl
            refine take_ (i := 1) (N := some 79) (v := ?_) (a' := ?_) #[true, true, false, false, false, false, false] rfl rfl yg (fun _ _ _ h => h) (Or.inl ⟨by rfl, ?_⟩) hHeld ?_ ?_
            rotate_left
            ·rintro w' s0
             go_simp
             with_reducible rfl
            rotate_left
            ·simp only [Act.put, List.setIfInBounds_toArray, List.set_cons_zero, List.set_cons_succ, zg, zi]
             rfl
            refine xf (i := 2) (N := some 80) (v := ?_) (a' := ?_) #[true, true, true, false, false, false, false] rfl rfl yg (fun _ _ _ h => h) (Or.inl ⟨by rfl, ?_⟩) ?_ ?_
            rotate_left
            ·intro w'
             go_simp
             with_reducible rfl
            rotate_left
            ·simp only [Act.put, List.setIfInBounds_toArray, List.set_cons_zero, List.set_cons_succ, zg, zi]
             rfl
            refine one_ (i := 3) (N := some 81) #[true, true, true, true, false, false, false] rfl rfl yg (by decide) (fun K hK => ?_)
            refine goes_ Tryz.func98 yg rfl #[.slice A1 l1.length c1, .string (⟨#[]⟩ : ByteArray)] (by rfl) rfl rfl cz ?_
            with_reducible refine (strings_Join.calls _ _ l1 (⟨#[]⟩ : ByteArray) t285 _ ?side1 ?side2 A51.out).mono ?_
            (case side1 => repeat (first | exact (Kd.xh HR1.out HB.out) | (with_reducible refine Kd.xm ?_ _) | (with_reducible refine Kd.xl ?_ _) | (with_reducible refine Kd.xx ?_)))
            (case side2 => exact HC1.out)
            rintro e w61 ⟨rfl, hb⟩
            refine ⟨_, rfl, ?_⟩
            have n0_ := qd.mk (Kd.R_below uo hb)
            have n1_ := qd.mk (Kd.R_below (by (with_reducible repeat (first | apply Kd.zq | apply Kd.zl | apply Kd.zt)); exact HO284.out) hb)
            have n2_ := qd.mk (qf cu hb)
            clear HO281
            clear HO284
            clear HB
            have HO281 := n0_
            have HO284 := n1_
            have HB := n2_
            clear n0_ n1_ n2_
            (try clear hb)
            (try clear hb2)
            (try clear hk)
            (try clear hi)
            refine hK.out _ _ (kj (P := Tryz.prog) Tryz.underlying97 Tryz.underlying5 Tryz.underlying9 (Kd.own_of_R HO284.out)) (fun hHeld => ?_)
            clear hK K
            refine norm_ (a' := ?_) ?_ ?_
            rotate_left
            ·show Act.put _ (some 81) _ = _
             simp only [Act.put, List.setIfInBounds_toArray, List.set_cons_zero, List.set_cons_succ, zg, zi]
             rfl
            refine xf (i := 4) (N := some 82) (v := ?_) (a' := ?_) #[true, true, true, true, true, false, false] rfl rfl yg (fun _ _ _ h => h) (Or.inl ⟨by rfl, ?_⟩) ?_ ?_
            rotate_left
            ·intro w'
             go_simp
             with_reducible rfl
            rotate_left
            ·simp only [Act.put, List.setIfInBounds_toArray, List.set_cons_zero, List.set_cons_succ, zg, zi]
             rfl
            refine xf (i := 5) (N := some 4) (v := ?_) (a' := ?_) #[true, true, true, true, true, true, false] rfl rfl yg (fun _ _ _ h => h) (Or.inl ⟨by rfl, ?_⟩) ?_ ?_
            rotate_left
            ·intro w'
             go_simp
             with_reducible rfl
            rotate_left
            ·simp only [Act.put, List.setIfInBounds_toArray, List.set_cons_zero, List.set_cons_succ, zg, zi]
             rfl
            refine xf (i := 6) (N := some 5) (v := ?_) (a' := ?_) #[true, true, true, true, true, true, true] rfl rfl yg (fun _ _ _ h => h) (Or.inl ⟨by rfl, ?_⟩) ?_ ?_
            rotate_left
            ·intro w'
             go_simp
             with_reducible rfl
            rotate_left
            ·simp only [Act.put, List.setIfInBounds_toArray, List.set_cons_zero, List.set_cons_succ, zg, zi]
             rfl
            refine done_ yg ?_
            try go_wp2
            go_ret2
            exact ⟨by first | rfl | (simp [qi, qj] <;> rfl) | (simp [*, qi, qj] <;> rfl), by repeat (first | (with_reducible first | exact HB.out | apply qb | apply qa | apply qc) | exact HB.out)⟩
           ·rw [if_neg c52] at H
            exact absurd H y7
          ·rw [if_neg c50] at H
           exact absurd H y7
end Go.Proofs.YtlamfnaoemingaaGreatDoor.C
end
section
namespace Go.Proofs.YtlamfnaoemingaaGreatDoor.C
open Go.RowKit Go.Proofs.YtlamfnaoemingaaGreatDoorW.PrintWords Go.Proofs.YtlamfnaoemingaaGreatDoorW.PrintLast Go.Proofs.YtlamfnaoemingaaGreatDoorW.PrintMore
attribute [local go_sem] zw zx xe xd zn zp zy zz
set_option linter.unusedVariables false
set_option linter.unusedSimpArgs false
end Go.Proofs.YtlamfnaoemingaaGreatDoor.C
end
section
namespace Go.Proofs.YtlamfnaoemingaaGreatDoor.Pl
open Go.RowKit Go.Proofs.YtlamfnaoemingaaGreatDoorW.PrintWords Go.Proofs.YtlamfnaoemingaaGreatDoor.C
set_option linter.unusedSimpArgs false
set_option linter.unusedVariables false
set_option maxRecDepth 100000
def foldStep (st : List Int × Bool) (c : Int) : List Int × Bool := if c = 32 then (st.1, decide ((st.1.length : Int) > 0)) else (st.1 ++ (if st.2 then [32] else []) ++ [lowC c], false)
def foldP (l : List Int) : List Int := (l.foldl foldStep ([], false)).1
def F (s : ByteArray) : ByteArray := strOfNums (foldP (bytesOf s))
theorem rd_cons {y : List Int} {i : Nat} {c : Int} {r : List Int} (h : y.drop i = c :: r) : i < y.length ∧ rd y i = c ∧ y.drop (i + 1) = r := by
 have hl : i < y.length := by
  rcases Nat.lt_or_ge i y.length with h' | h'
  ·exact h'
  ·rw [List.drop_eq_nil_of_le h'] at h; cases h
 rw [List.drop_eq_getElem_cons hl] at h
 refine ⟨hl, ?_, (List.cons.inj h).2⟩
 unfold rd
 rw [Int.toNat_natCast, List.getD_eq_getElem?_getD, List.getElem?_eq_getElem hl]
 exact (List.cons.inj h).1
theorem push_t (y : List Int) (hy : y.length ≤ 1000000000) (c : Int) (i : Nat) (out : List Int) (gap : Bool) (r : ByteArray) (hi : i < y.length) (ho : out.length ≤ 2 * i + 1)
  (h : Ev (fun k => q4.l0 k (out ++ [lowC c]) gap y (y.length : Int) ((i + 1 : Nat) : Int)) r) : Ev (fun k => q4.j1 k out gap c y (y.length : Int) i) r := by
 refine Ev.step (fun k => by rw [q4.j1]) ?_
 rw [w64 (n := (i : Int) + 1) yo yo]
 by_cases h1 : c ≥ 65
 ·refine Ev.pos h1 ?_
  by_cases h2 : c ≤ 90
  ·refine Ev.pos h2 (Ev.pos yo ?_)
   rw [show (c + 32) % 256 = lowC c from by unfold lowC; rw [if_pos ⟨h1, h2⟩]; omega]
   exact h
  ·refine Ev.neg h2 (Ev.pos yo ?_)
   rw [show [c] = [lowC c] from by unfold lowC; rw [if_neg yo]]
   exact h
 ·refine Ev.neg h1 (Ev.pos yo ?_)
  rw [show [c] = [lowC c] from by unfold lowC; rw [if_neg yo]]
  exact h
theorem Fold_t0 (y : List Int) (hy : y.length ≤ 1000000000) : ∀ (rest : List Int) (i : Nat) (out : List Int) (gap : Bool), y.drop i = rest → out.length ≤ 2 * i → i ≤ y.length →
  Ev (fun k => q4.l0 k out gap y (y.length : Int) i) (strOfNums (rest.foldl foldStep (out, gap)).1)
 | [], i, out, gap, h, ho, hi => by
  have := List.drop_eq_nil_iff.1 h
  refine Ev.step (fun k => by rw [q4.l0]) ?_
  exact Ev.neg yo (Ev.now _)
 | c :: rest, i, out, gap, h, ho, hi => by
  obtain ⟨h1, h2, h3⟩ := rd_cons h
  refine Ev.step (fun k => by rw [q4.l0]) ?_
  refine Ev.pos yo (Ev.pos yo (Ev.pos yo ?_))
  rw [h2, List.foldl_cons]
  by_cases hc : c = 32
  ·refine Ev.pos hc ?_
   rw [w64 (n := (i : Int) + 1) yo yo, show foldStep (out, gap) c = (out, decide ((out.length : Int) > 0)) from by unfold foldStep; rw [if_pos hc]]
   exact Fold_t0 y hy rest (i + 1) out _ h3 yo yo
  ·refine Ev.neg hc ?_
   rw [show foldStep (out, gap) c = (out ++ (if gap then [32] else []) ++ [lowC c], false) from by unfold foldStep; rw [if_neg hc]]
   cases gap with
   | true =>
    refine Ev.pos rfl (Ev.pos yo ?_)
    exact push_t y hy c i (out ++ [32]) false _ h1 (by simp; omega) (Fold_t0 y hy rest (i + 1) _ false h3 (by simp; omega) yo)
   | false =>
    refine Ev.neg y7 ?_
    rw [show out ++ (if false = true then [32] else []) = out from by simp]
    exact push_t y hy c i out false _ h1 yo (Fold_t0 y hy rest (i + 1) _ false h3 (by simp; omega) yo)
theorem Fold_t (s : ByteArray) (hs : s.size ≤ 1000000000) : Ev (fun k => q4.f k s) (F s) := by
 unfold q4.f
 refine Ev.pos yo (Ev.bnd rfl ?_)
 exact Fold_t0 (bytesOf s) (by rw [bytesOf_length]; exact hs) (bytesOf s) 0 [] false rfl (Nat.zero_le _) (Nat.zero_le _)
def eqA (a b : S83) : Bool := if a.f0.toList = b.f0.toList then (F a.f2).toList == (F b.f2).toList else false
def hasS (l : List S83) (a : S83) : Bool := l.any fun b => eqA a b
def sameS (a b : List S83) : Bool := decide (a.length = b.length) && (a.zip b).all fun p => hasS b p.1 && hasS a p.2
def withinS (n base : List (List S83)) : Bool := decide (base.length ≤ n.length) && (n.zip base).all fun p => sameS p.1 p.2
def matchS (a b : List (List S83)) : Bool := decide (a.length = b.length) && withinS a b
def Fine (l : List S83) : Prop := l.length ≤ 1000000000 ∧ ∀ a ∈ l, a.f2.size ≤ 1000000000
def FineN (n : List (List S83)) : Prop := n.length ≤ 1000000000 ∧ ∀ r ∈ n, Fine r
theorem row83 {l : List S83} {i : Nat} {a : S83} {r : List S83} (h : l.drop i = a :: r) : i < l.length ∧ q9 l i = a ∧ l.drop (i + 1) = r := by
 have hl : i < l.length := by
  rcases Nat.lt_or_ge i l.length with h' | h'
  ·exact h'
  ·rw [List.drop_eq_nil_of_le h'] at h; cases h
 rw [List.drop_eq_getElem_cons hl] at h
 refine ⟨hl, ?_, (List.cons.inj h).2⟩
 unfold q9
 rw [Int.toNat_natCast, List.getD_eq_getElem?_getD, List.getElem?_eq_getElem hl]
 exact (List.cons.inj h).1
theorem Match_t (x y : ByteArray) (hx : x.size ≤ 1000000000) (hy : y.size ≤ 1000000000) : Ev (fun k => xg.f k x y) ((F x).toList == (F y).toList) := by
 unfold xg.f
 exact Ev.bind (Fold_t x hx) (Ev.bind (f := fun _ t => some _) (Fold_t y hy) (Ev.now _))
theorem has_t0 (l : List S83) (hl : Fine l) (b0 : ByteArray) (b1 : Int) (b2 : ByteArray) (hb : b2.size ≤ 1000000000) : ∀ (rest : List S83) (i : Nat), l.drop i = rest → i ≤ l.length →
  Ev (fun k => ze.l0 k l (l.length : Int) i b0 b1 b2) (rest.any fun b => eqA ⟨b0, b1, b2⟩ b)
 | [], i, h, hi => by
  have := List.drop_eq_nil_iff.1 h
  refine Ev.step (fun k => by rw [ze.l0]) ?_
  exact Ev.neg yo (Ev.now _)
 | a :: rest, i, h, hi => by
  obtain ⟨h1, h2, h3⟩ := row83 h
  have hl1 := hl.1
  have ha := hl.2 a (List.mem_of_mem_drop (by rw [h]; exact List.mem_cons_self))
  refine Ev.step (fun k => by rw [ze.l0]) ?_
  rw [h2, w64 (n := (i : Int) + 1) yo yo, List.any_cons]
  refine Ev.pos yo (Ev.pos yo (Ev.pos yo ?_))
  have ih := has_t0 l hl b0 b1 b2 hb rest (i + 1) h3 yo
  by_cases he : b0.toList = a.f0.toList
  ·refine Ev.pos he (Ev.bind (Match_t b2 a.f2 hb ha) ?_)
   rw [show eqA ⟨b0, b1, b2⟩ a = ((F b2).toList == (F a.f2).toList) from by unfold eqA; rw [if_pos he]]
   by_cases hm : ((F b2).toList == (F a.f2).toList) = true
   ·rw [hm]
    exact Ev.pos rfl (Ev.now _)
   ·rw [Bool.eq_false_iff.mpr hm]
    refine Ev.neg y7 ?_
    simpa using ih
  ·refine Ev.neg he ?_
   rw [show eqA ⟨b0, b1, b2⟩ a = false from by unfold eqA; rw [if_neg he]]
   simpa using ih
theorem has_t (l : List S83) (hl : Fine l) (a : S83) (ha : a.f2.size ≤ 1000000000) : Ev (fun k => ze.f k l a.f0 a.f1 a.f2) (hasS l a) := by
 unfold ze.f
 exact has_t0 l hl a.f0 a.f1 a.f2 ha l 0 rfl (Nat.zero_le _)
theorem zip_drop {α β : Type} {a : List α} {b : List β} (i : Nat) (ha : i < a.length) (hb : i < b.length) : (a.zip b).drop i = (a[i], b[i]) :: (a.zip b).drop (i + 1) := by
 have h : i < (a.zip b).length := by rw [List.length_zip]; omega
 rw [List.drop_eq_getElem_cons h, List.getElem_zip]
theorem at83 {l : List S83} {i : Nat} (h : i < l.length) : q9 l (i : Int) = l[i] := by
 unfold q9
 rw [Int.toNat_natCast, List.getD_eq_getElem?_getD, List.getElem?_eq_getElem h]
 rfl
theorem atL5 {l : List (List S83)} {i : Nat} (h : i < l.length) : rd_L5 l (i : Int) = l[i] := by
 unfold rd_L5
 rw [Int.toNat_natCast, List.getD_eq_getElem?_getD, List.getElem?_eq_getElem h]
 rfl
theorem same_t0 (a b : List S83) (ha : Fine a) (hb : Fine b) (hab : a.length = b.length) : ∀ (d i : Nat), i + d = a.length → Ev (fun k => zd.l0 k a b (a.length : Int) i) (((a.zip b).drop i).all fun p => hasS b p.1 && hasS a p.2)
 | 0, i, h => by
  refine Ev.step (fun k => by rw [zd.l0]) ?_
  rw [List.drop_eq_nil_of_le (by rw [List.length_zip]; omega)]
  exact Ev.neg yo (Ev.now _)
 | d + 1, i, h => by
  have ha1 := ha.1
  have h1 : i < a.length := by omega
  have h2 : i < b.length := by omega
  have ih := same_t0 a b ha hb hab d (i + 1) yo
  refine Ev.step (fun k => by rw [zd.l0]) ?_
  rw [zip_drop i h1 h2, List.all_cons, at83 h1, at83 h2, w64 (n := (i : Int) + 1) yo yo]
  refine Ev.pos yo (Ev.pos yo (Ev.pos yo (Ev.bind (has_t b hb a[i] (ha.2 _ (List.getElem_mem h1))) ?_)))
  show Ev _ ((hasS b a[i] && hasS a b[i]) && _)
  cases hasS b a[i] with
  | false => exact Ev.neg y7 (Ev.now _)
  | true =>
   refine Ev.pos rfl (Ev.pos yo (Ev.bind (has_t a ha b[i] (hb.2 _ (List.getElem_mem h2))) ?_))
   cases hasS a b[i] with
   | false => exact Ev.neg y7 (Ev.now _)
   | true => exact Ev.pos rfl (by simpa using ih)
theorem same_t (a b : List S83) (ha : Fine a) (hb : Fine b) : Ev (fun k => zd.f k a b) (sameS a b) := by
 unfold zd.f sameS
 by_cases h : a.length = b.length
 ·rw [decide_eq_true h]
  exact Ev.pos yo (same_t0 a b ha hb h a.length 0 yo)
 ·rw [decide_eq_false h]
  exact Ev.neg yo (Ev.now _)
theorem within_t0 (n b : List (List S83)) (hn : FineN n) (hb : FineN b) (hab : b.length ≤ n.length) : ∀ (d i : Nat), i + d = b.length → Ev (fun k => qw.l0 k (b.length : Int) i n b) (((n.zip b).drop i).all fun p => sameS p.1 p.2)
 | 0, i, h => by
  refine Ev.step (fun k => by rw [qw.l0]) ?_
  rw [List.drop_eq_nil_of_le (by rw [List.length_zip]; omega)]
  exact Ev.neg yo (Ev.now _)
 | d + 1, i, h => by
  have hb1 := hb.1
  have h1 : i < n.length := by omega
  have h2 : i < b.length := by omega
  have ih := within_t0 n b hn hb hab d (i + 1) yo
  refine Ev.step (fun k => by rw [qw.l0]) ?_
  rw [zip_drop i h1 h2, List.all_cons, atL5 h1, atL5 h2, w64 (n := (i : Int) + 1) yo yo]
  refine Ev.pos yo (Ev.pos yo (Ev.pos yo (Ev.pos yo (Ev.bind (same_t n[i] b[i] (hn.2 _ (List.getElem_mem h1)) (hb.2 _ (List.getElem_mem h2))) ?_))))
  show Ev _ (sameS n[i] b[i] && _)
  cases sameS n[i] b[i] with
  | false => exact Ev.neg y7 (Ev.now _)
  | true => exact Ev.pos rfl (by simpa using ih)
theorem Within_t (n b : List (List S83)) (hn : FineN n) (hb : FineN b) : Ev (fun k => qw.f k n b) (withinS n b) := by
 unfold qw.f withinS
 by_cases h : b.length ≤ n.length
 ·rw [decide_eq_true h]
  exact Ev.neg yo (within_t0 n b hn hb h b.length 0 yo)
 ·rw [decide_eq_false h]
  exact Ev.pos yo (Ev.now _)
theorem MatchN_t (a b : List (List S83)) (ha : FineN a) (hb : FineN b) : Ev (fun k => xb.f k a b) (matchS a b) := by
 unfold xb.f matchS
 by_cases h : a.length = b.length
 ·rw [decide_eq_true h]
  exact Ev.pos yo (Ev.bind (f := fun _ t => some _) (Within_t a b ha hb) (Ev.now _))
 ·rw [decide_eq_false h]
  exact Ev.neg yo (Ev.now _)
end Go.Proofs.YtlamfnaoemingaaGreatDoor.Pl
end
