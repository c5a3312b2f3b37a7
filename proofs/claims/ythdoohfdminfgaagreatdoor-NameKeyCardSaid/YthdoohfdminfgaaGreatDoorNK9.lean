/- Words, walks and plain laws that the claim rests on, gathered. -/
import Derived.Test.YthdoohfdminfgaaGreatDoorProg
import Derived.WalkSpells
import Derived.Below
import Derived.Deep.Draws
import Derived.Deep.AppendLies
import Derived.Maps.AppendAt
import Derived.OwnWalk
import Derived.Laws.BytesArg
import Derived.Laws.MakeOwn
import Derived.Laws.OwnMore
import Derived.Deep.OwnRows
import Derived.Tactics
import Derived.Lib.ConvBytes
import Derived.Laws.Slices
import Derived.WalkKit
import Derived.KernelRfl
import Derived.RowKit3
import Derived.Deep.LoopGhost
import Derived.Deep.QuietTactic
import Derived.BigQuiet
import Derived.WideLaws
import Derived.Deep.DeepCutAuto
import Derived.Deep.CutBlock
import Derived.Deep.RegionHeld3
import Derived.Laws.Rows
import Derived.Lib.AppendStr
import Derived.ArgAppend
import Derived.Laws.IdiomCopy
import Derived.OrdersHeld
import Derived.Laws.BitsLemmas
import Derived.RowKit
import Derived.WalkLawsBesides
import Derived.Shelf.Strings.Builder1
import Derived.Shelf.Strings.Builder2
import Derived.Shelf.Strings.OnBuilder
import Derived.Shelf.Small.Bits
import Derived.Shelf.Small.Strs
import Derived.Shelf.Strings.BuilderF
import Derived.Shelf.Strings.BuilderK
import Derived.Shelf.Utf8.RuneCount
import Derived.Shelf.Strings.Builder2Cap
import Derived.Shelf.Strconv.Itoa0
import Derived.Shelf.Strconv.Itoa1
import Derived.Shelf.LaysM
import Derived.Shelf.Strconv.Itoa2
import Derived.Shelf.Strconv.Itoa3
import Derived.Shelf.Strings.Search1
import Derived.Shelf.Strings.Search2
import Derived.Shelf.Strings.Search3
import Derived.Shelf.Strings.Cut
import Derived.Shelf.Strings.Count
import Derived.Shelf.Strings.Shaped
import Derived.Shelf.Sort.Plain
import Derived.Ground.GgsProg
import Derived.Shelf.GgSortFunc.Insertion
import Derived.Shelf.GgSortFunc.Small
import Derived.Shelf.GgSortFunc.InsertionK
import Derived.Shelf.GgSortFunc.SmallK
import Derived.Shelf.GgSortFunc.Tiny
import Derived.Shelf.GgSortFunc.Compose
import Derived.Shelf.GgSortFunc.LotD
import Derived.Shelf.GgSortFunc.Pivot
import Derived.Shelf.GgSortFunc.Partition
import Derived.Shelf.GgSortFunc.Pdq
import Derived.Shelf.GgSortFunc.Whole
import Derived.Shelf.Strings.Prefix
import Derived.Shelf.Strings.Split
import Derived.Shelf.Strings.SplitShaped
import Derived.Shelf.Unicode.Decode
import Derived.Shelf.Strings.RuneCount
import Derived.Shelf.Strings.Explode
import Derived.Shelf.Unicode.DecodeSlow
import Derived.Shelf.Unicode.DecodeAny
import Derived.Shelf.Strings.BuilderCap
import Derived.Shelf.Slices.In.SortNone
import Derived.Shelf.Slices.In.SortNone2
import Derived.Shelf.SlSortFunc.Xorshift
import Derived.Shelf.SlSortFuncK.ComposeK
import Derived.Shelf.SlSortFuncK.SiftDownK
import Derived.Shelf.SlSortFuncK.HeapSortK
import Derived.Shelf.SlSortFuncK.PartialInsertionK
import Derived.Shelf.SlSortFuncK.LotDK
import Derived.Shelf.SlSortFuncK.PivotK
import Derived.Shelf.SlSortFuncK.PartitionK
import Derived.Shelf.SlSortFunc.SiftDown
import Derived.Shelf.SlSortFunc.HeapSort
import Derived.Shelf.SlSortFunc.PartialInsertion
import Derived.Shelf.SlSortFuncK.PdqK
import Derived.Shelf.SlSortFuncK.WholeK
import Derived.Laws.StructEq
import Derived.Test.YthdoohfdminfgaaGreatDoorNK0
import Derived.Test.YthdoohfdminfgaaGreatDoorNK1
import Derived.Test.YthdoohfdminfgaaGreatDoorNK2
import Derived.Test.YthdoohfdminfgaaGreatDoorNKc
namespace Go.Proofs.YthdoohfdminfgaaGreatDoorW.PrintLast
end Go.Proofs.YthdoohfdminfgaaGreatDoorW.PrintLast
namespace Go.Proofs.YthdoohfdminfgaaGreatDoorW.PrintMore
end Go.Proofs.YthdoohfdminfgaaGreatDoorW.PrintMore
namespace Go.Proofs.YthdoohfdminfgaaGreatDoorW.PrintWords
end Go.Proofs.YthdoohfdminfgaaGreatDoorW.PrintWords
section
namespace Go.Proofs.YthdoohfdminfgaaGreatDoor.C
open Go.RowKit Go.Proofs.YthdoohfdminfgaaGreatDoorW.PrintWords Go.Proofs.YthdoohfdminfgaaGreatDoorW.PrintLast Go.Proofs.YthdoohfdminfgaaGreatDoorW.PrintMore
attribute [local go_sem] xa z7 xq xr zx zy xc z8
set_option linter.unusedVariables false
set_option linter.unusedSimpArgs false
mutual
def qm.l0 : Nat → ByteArray → List Int → Int → Int → Option (List Int × Bool)
 | 0, _, _, _, _ => none
 | k + 1, x0, x4, x5, x6 => if x6 ≤ (x0.size : Int) then (if x6 < (x0.size : Int) then (if 0 ≤ x6 then (qm.j1 k x0 x4 x5 x6 ((bt x0 x6) != 46)) else (none)) else (qm.j1 k x0 x4 x5 x6 false)) else (if (x4.length : Int) < 2 then (qm.j4 k x4 true) else (if 0 < (x4.length : Int) then (if (rd x4 0) > 2 then (qm.j4 k x4 true) else (if (rd x4 0) < 2 then (if 1 < (x4.length : Int) then (qm.j4 k x4 (decide ((rd x4 1) > 39))) else (none)) else (qm.j4 k x4 false))) else (none)))
def qm.j1 : Nat → ByteArray → List Int → Int → Int → Bool → Option (List Int × Bool)
 | 0, _, _, _, _, _ => none
 | k + 1, x0, x4, x5, x6, x25 => if x25 = true then (if 0 ≤ x6 then (if x6 < (x0.size : Int) then (if (bt x0 x6) < 48 then (some (([] : List Int), false)) else (if (bt x0 x6) > 57 then (some (([] : List Int), false)) else (qm.l0 k x0 x4 x5 (wrap64 (x6 + 1))))) else (none)) else (none)) else (if 0 ≤ x5 then (if x5 ≤ x6 then (if x6 ≤ (x0.size : Int) then (if ((x0.extract (x5 : Int).toNat (x6 : Int).toNat).size : Int) = 0 then (qm.j2 k x0 x4 x6 (x0.extract (x5 : Int).toNat (x6 : Int).toNat) true) else (if ((x0.extract (x5 : Int).toNat (x6 : Int).toNat).size : Int) > 10 then (qm.j2 k x0 x4 x6 (x0.extract (x5 : Int).toNat (x6 : Int).toNat) true) else (if ((x0.extract (x5 : Int).toNat (x6 : Int).toNat).size : Int) > 1 then (if 0 < ((x0.extract (x5 : Int).toNat (x6 : Int).toNat).size : Int) then (if (bt (x0.extract (x5 : Int).toNat (x6 : Int).toNat) 0) = 48 then (qm.j2 k x0 x4 x6 (x0.extract (x5 : Int).toNat (x6 : Int).toNat) true) else (qm.j2 k x0 x4 x6 (x0.extract (x5 : Int).toNat (x6 : Int).toNat) ((x4.length : Int) == 12))) else (none)) else (qm.j2 k x0 x4 x6 (x0.extract (x5 : Int).toNat (x6 : Int).toNat) ((x4.length : Int) == 12))))) else (none)) else (none)) else (none))
def qm.j2 : Nat → ByteArray → List Int → Int → ByteArray → Bool → Option (List Int × Bool)
 | 0, _, _, _, _, _ => none
 | k + 1, x0, x4, x6, x7, x62 => if x62 = true then (some (([] : List Int), false)) else (qm.l1 k x0 x4 x6 x7 0 0)
def qm.l1 : Nat → ByteArray → List Int → Int → ByteArray → Int → Int → Option (List Int × Bool)
 | 0, _, _, _, _, _, _ => none
 | k + 1, x0, x4, x6, x7, x8, x9 => if x9 < (x7.size : Int) then (if 0 ≤ x9 then (qm.l1 k x0 x4 x6 x7 (wrap64 ((wrap64 (10 * x8)) + (((bt x7 x9) - 48) % 256))) (wrap64 (x9 + 1))) else (none)) else (if x8 > 2147483647 then (some (([] : List Int), false)) else (if x4.length < 17592186044416 then (qm.l0 k x0 (x4 ++ [x8]) (wrap64 (x6 + 1)) (wrap64 (x6 + 1))) else (none)))
def qm.j4 : Nat → List Int → Bool → Option (List Int × Bool)
 | 0, _, _ => none
 | k + 1, x4, x105 => if x105 = true then (some (([] : List Int), false)) else (some (x4, true))
end
def qm.f (k : Nat) (a0 : ByteArray) : Option (List Int × Bool) := qm.l0 k a0 ([] : List Int) 0 0
theorem qm.xi : ∀ k, (∀ y0 y1 y2 y3, LeO (qm.l0 k y0 y1 y2 y3) (qm.l0 (k + 1) y0 y1 y2 y3)) ∧ (∀ y0 y1 y2 y3 y4, LeO (qm.j1 k y0 y1 y2 y3 y4) (qm.j1 (k + 1) y0 y1 y2 y3 y4)) ∧ (∀ y0 y1 y2 y3 y4, LeO (qm.j2 k y0 y1 y2 y3 y4) (qm.j2 (k + 1) y0 y1 y2 y3 y4)) ∧ (∀ y0 y1 y2 y3 y4 y5, LeO (qm.l1 k y0 y1 y2 y3 y4 y5) (qm.l1 (k + 1) y0 y1 y2 y3 y4 y5)) ∧ (∀ y0 y1, LeO (qm.j4 k y0 y1) (qm.j4 (k + 1) y0 y1))
 | 0 => ⟨fun _ _ _ _ r h => by simp [qm.l0] at h, fun _ _ _ _ _ r h => by simp [qm.j1] at h, fun _ _ _ _ _ r h => by simp [qm.j2] at h, fun _ _ _ _ _ _ r h => by simp [qm.l1] at h, fun _ _ r h => by simp [qm.j4] at h⟩
 | k + 1 => by
  obtain ⟨ih0, ih1, ih2, ih3, ih4⟩ := qm.xi k
  refine ⟨?_, ?_, ?_, ?_, ?_⟩
  ·intro y0 y1 y2 y3
   unfold qm.l0
   repeat' first
   | (with_reducible exact ih0 _ _ _ _)
   | (with_reducible exact ih1 _ _ _ _ _)
   | (with_reducible exact ih2 _ _ _ _ _)
   | (with_reducible exact ih3 _ _ _ _ _ _)
   | (with_reducible exact ih4 _ _)
   | (with_reducible exact LeO.refl _)
   | (with_reducible exact LeO.none _)
   | (with_reducible refine LeO.ite ?_ ?_)
   | (with_reducible refine LeO.bind ?_ (fun _ => ?_))
  ·intro y0 y1 y2 y3 y4
   unfold qm.j1
   repeat' first
   | (with_reducible exact ih0 _ _ _ _)
   | (with_reducible exact ih1 _ _ _ _ _)
   | (with_reducible exact ih2 _ _ _ _ _)
   | (with_reducible exact ih3 _ _ _ _ _ _)
   | (with_reducible exact ih4 _ _)
   | (with_reducible exact LeO.refl _)
   | (with_reducible exact LeO.none _)
   | (with_reducible refine LeO.ite ?_ ?_)
   | (with_reducible refine LeO.bind ?_ (fun _ => ?_))
  ·intro y0 y1 y2 y3 y4
   unfold qm.j2
   repeat' first
   | (with_reducible exact ih0 _ _ _ _)
   | (with_reducible exact ih1 _ _ _ _ _)
   | (with_reducible exact ih2 _ _ _ _ _)
   | (with_reducible exact ih3 _ _ _ _ _ _)
   | (with_reducible exact ih4 _ _)
   | (with_reducible exact LeO.refl _)
   | (with_reducible exact LeO.none _)
   | (with_reducible refine LeO.ite ?_ ?_)
   | (with_reducible refine LeO.bind ?_ (fun _ => ?_))
  ·intro y0 y1 y2 y3 y4 y5
   unfold qm.l1
   repeat' first
   | (with_reducible exact ih0 _ _ _ _)
   | (with_reducible exact ih1 _ _ _ _ _)
   | (with_reducible exact ih2 _ _ _ _ _)
   | (with_reducible exact ih3 _ _ _ _ _ _)
   | (with_reducible exact ih4 _ _)
   | (with_reducible exact LeO.refl _)
   | (with_reducible exact LeO.none _)
   | (with_reducible refine LeO.ite ?_ ?_)
   | (with_reducible refine LeO.bind ?_ (fun _ => ?_))
  ·intro y0 y1
   unfold qm.j4
   repeat' first
   | (with_reducible exact ih0 _ _ _ _)
   | (with_reducible exact ih1 _ _ _ _ _)
   | (with_reducible exact ih2 _ _ _ _ _)
   | (with_reducible exact ih3 _ _ _ _ _ _)
   | (with_reducible exact ih4 _ _)
   | (with_reducible exact LeO.refl _)
   | (with_reducible exact LeO.none _)
   | (with_reducible refine LeO.ite ?_ ?_)
   | (with_reducible refine LeO.bind ?_ (fun _ => ?_))
theorem qm.mono : ∀ a0 k, LeO (qm.f k a0) (qm.f (k + 1) a0) := by
 intro a0 k
 obtain ⟨ih0, ih1, ih2, ih3, ih4⟩ := qm.xi k
 unfold qm.f
 repeat' first
   | (with_reducible exact ih0 _ _ _ _)
   | (with_reducible exact ih1 _ _ _ _ _)
   | (with_reducible exact ih2 _ _ _ _ _)
   | (with_reducible exact ih3 _ _ _ _ _ _)
   | (with_reducible exact ih4 _ _)
   | (with_reducible exact LeO.refl _)
   | (with_reducible exact LeO.none _)
   | (with_reducible refine LeO.ite ?_ ?_)
   | (with_reducible refine LeO.bind ?_ (fun _ => ?_))
set_option maxHeartbeats 8000000 in
set_option maxRecDepth 100000 in
theorem qm.calls (k : Nat) (a0 : ByteArray) (r1 : List Int) (r2 : Bool) (w : World) (h : qm.f k a0 = some (r1, r2)) :
  Calls Tryz.prog 108 #[.string a0] w fun e w' => ∃ v0_ : Value, e = .returned (.tuple #[v0_, .bool r2]) ∧ Kd.R (Kd.int .i64) 3 w' w.heap.size (fun _ => True) v0_ r1 ∧ Below w.heap.size w w' := by
 have HB := qa.mk (Below.refl w.heap.size w)
 have H : (qm.l0 k a0 ([] : List Int) 0 0) = some (r1, r2) := h
 clear h
 have H' := qa.mk H
 clear H
 go_enter Tryz.func108, Tryz.ntmps108
 go_wp2
 go_loopg [4, 5, 6] k (fun kq v4 v5 v6 w' => ∃ (x4_1 : List Int) (x5_1 : Int) (x6_1 : Int), v5 = .int .i64 x5_1 ∧ v6 = .int .i64 x6_1 ∧ qa (qm.l0 kq a0 x4_1 x5_1 x6_1 = some (r1, r2)) ∧ qa (kq ≤ k) ∧ qa (Kd.R (Kd.int .i64) 3 w' w.heap.size (fun _ => True) v4 x4_1) ∧ qa (Below w.heap.size w w'))
 case atStart => exact ⟨(([] : List Int)), (0), (0), yf, yf, H', ⟨Nat.le_refl _⟩, ⟨by first | exact Kd.R_nil _ _ _ _ _ | exact Kd.N_nil _ _ _ _ _ | exact Kd.V_nil _ _ _ _ _ | exact Kd.Q_nil _ _ _ _ _ | exact Kd.S_nil _ _ _ _ _⟩, ⟨by repeat (first | (with_reducible first | exact HB.out | apply qc | apply qb | apply qd) | exact HB.out)⟩⟩
 case round =>
  clear H'
  try clear c1
  obtain ⟨x4_1, x5_1, x6_1, rfl, rfl, HA, HK1, HO_4, HB⟩ := hrel
  cases gk with
  | zero => exact absurd HA.out (by simp [qm.l0])
  | succ k1 =>
   have H := HA.out
   clear HA
   simp only [qm.l0] at H
   by_cases c2 : x6_1 ≤ (a0.size : Int)
   ·rw [if_pos c2] at H
    have c2b0 : decide (x6_1 ≤ (a0.size : Int)) = true := decide_eq_true c2
    clear c2
    have HC3 := qa.mk H
    clear H
    go_upto_region 6 with (fail)
    go_cut [25] (fun v25 wc => ∃ (kq : Nat) (x25_2 : Bool), v25 = .bool x25_2 ∧ qa (qm.j1 kq a0 x4_1 x5_1 x6_1 x25_2 = some (r1, r2)) ∧ qa (kq ≤ k1) ∧ qa (Kd.R (Kd.int .i64) 3 wc w.heap.size (fun _ => True) u4 x4_1) ∧ qa (Below w.heap.size w wc))
    case first =>
     have H := HC3.out
     clear HC3
     by_cases c4 : x6_1 < (a0.size : Int)
     ·rw [if_pos c4] at H
      have c4b0 : decide (x6_1 < (a0.size : Int)) = true := decide_eq_true c4
      clear c4
      (first | rw [c4b0] | (simp only [zm, zq]; rw [c4b0]) | skip)
      by_cases c5 : 0 ≤ x6_1
      ·rw [if_pos c5] at H
       have c5b0 : decide (0 ≤ x6_1) = true := decide_eq_true c5
       clear c5
       have H' := qa.mk H
       clear H
       have p6 : 0 ≤ (x6_1 : Int) := of_decide_eq_true cz
       have q6 : x6_1 < (a0.size : Int) := of_decide_eq_true cz
       have hx6 := km a0 x6_1
       replace p6 := eq_true p6
       replace q6 := eq_true q6
       go_wp2
       go_meet
       case rel => exact ⟨_, (((bt a0 x6_1) != 46)), yf, H', ⟨by have := HK1.out; first | omega | exact Nat.le_refl _⟩, ⟨by (with_reducible repeat (first | apply Kd.zh | apply Kd.zg | apply Kd.zr)); exact HO_4.out⟩, ⟨by repeat (first | (with_reducible first | exact HB.out | apply qc | apply qb | apply qd) | exact HB.out)⟩⟩
      ·rw [if_neg c5] at H
       exact absurd H yt
     ·rw [if_neg c4] at H
      have c4b0 : decide (x6_1 < (a0.size : Int)) = false := decide_eq_false c4
      clear c4
      (first | rw [c4b0] | (simp only [zm, zq]; rw [c4b0]) | skip)
      have H' := qa.mk H
      clear H
      go_wp2
      go_meet
      case rel => exact ⟨_, (false), yf, H', ⟨by have := HK1.out; first | omega | exact Nat.le_refl _⟩, ⟨by (with_reducible repeat (first | apply Kd.zh | apply Kd.zg | apply Kd.zr)); exact HO_4.out⟩, ⟨by repeat (first | (with_reducible first | exact HB.out | apply qc | apply qb | apply qd) | exact HB.out)⟩⟩
    case rest =>
     clear HC3
     (try clear c1); (try clear c2); (try clear c2b0); (try clear p2); (try clear c4); (try clear c4b0); (try clear c5); (try clear c5b0); (try clear p6); (try clear q6); (try clear hx6); try clear p6
     try clear q6
     obtain ⟨kq, x25_2, rfl, HA, HJ2, HO_4, HB⟩ := hcut
     cases kq with
     | zero => exact absurd HA.out (by simp [qm.j1])
     | succ kj2 =>
      have H := HA.out
      clear HA
      simp only [qm.j1] at H
      by_cases c7 : x25_2 = true
      ·subst c7
       have H1 : (if 0 ≤ x6_1 then (if x6_1 < (a0.size : Int) then (if (bt a0 x6_1) < 48 then (some (([] : List Int), false)) else (if (bt a0 x6_1) > 57 then (some (([] : List Int), false)) else (qm.l0 kj2 a0 x4_1 x5_1 (wrap64 (x6_1 + 1))))) else (none)) else (none)) = some (r1, r2) := by rw [if_pos rfl] at H; exact H
       clear H
       have H := H1
       clear H1
       by_cases c8 : 0 ≤ x6_1
       ·rw [if_pos c8] at H
        have c8b0 : decide (0 ≤ x6_1) = true := decide_eq_true c8
        clear c8
        by_cases c9 : x6_1 < (a0.size : Int)
        ·rw [if_pos c9] at H
         have c9b0 : decide (x6_1 < (a0.size : Int)) = true := decide_eq_true c9
         clear c9
         by_cases c11 : (bt a0 x6_1) < 48
         ·rw [if_pos c11] at H
          have c11b0 : decide ((bt a0 x6_1) < 48) = true := decide_eq_true c11
          clear c11
          simp only [Option.some.injEq, Prod.mk.injEq] at H
          obtain ⟨rfl, rfl⟩ := H
          have p10 : 0 ≤ (x6_1 : Int) := of_decide_eq_true cz
          have q10 : x6_1 < (a0.size : Int) := of_decide_eq_true cz
          have hx10 := km a0 x6_1
          replace p10 := eq_true p10
          replace q10 := eq_true q10
          go_wp2
          go_ret2
          exact ⟨_, by first | rfl | (simp [qu, qt] <;> rfl) | (simp [*, qu, qt] <;> rfl), by first | exact Kd.R_nil _ _ _ _ _ | exact Kd.N_nil _ _ _ _ _ | exact Kd.V_nil _ _ _ _ _ | exact Kd.Q_nil _ _ _ _ _ | exact Kd.S_nil _ _ _ _ _, by repeat (first | (with_reducible first | exact HB.out | apply qc | apply qb | apply qd) | exact HB.out)⟩
         ·rw [if_neg c11] at H
          have c11b0 : decide ((bt a0 x6_1) < 48) = false := decide_eq_false c11
          clear c11
          by_cases c13 : (bt a0 x6_1) > 57
          ·rw [if_pos c13] at H
           have c13b0 : decide (57 < (bt a0 x6_1)) = true := decide_eq_true c13
           clear c13
           simp only [Option.some.injEq, Prod.mk.injEq] at H
           obtain ⟨rfl, rfl⟩ := H
           have p10 : 0 ≤ (x6_1 : Int) := of_decide_eq_true cz
           have q10 : x6_1 < (a0.size : Int) := of_decide_eq_true cz
           have hx10 := km a0 x6_1
           replace p10 := eq_true p10
           replace q10 := eq_true q10
           have p12 : 0 ≤ (x6_1 : Int) := of_decide_eq_true cz
           have q12 : x6_1 < (a0.size : Int) := of_decide_eq_true cz
           have hx12 := km a0 x6_1
           replace p12 := eq_true p12
           replace q12 := eq_true q12
           go_wp2
           go_ret2
           exact ⟨_, by first | rfl | (simp [qu, qt] <;> rfl) | (simp [*, qu, qt] <;> rfl), by first | exact Kd.R_nil _ _ _ _ _ | exact Kd.N_nil _ _ _ _ _ | exact Kd.V_nil _ _ _ _ _ | exact Kd.Q_nil _ _ _ _ _ | exact Kd.S_nil _ _ _ _ _, by repeat (first | (with_reducible first | exact HB.out | apply qc | apply qb | apply qd) | exact HB.out)⟩
          ·rw [if_neg c13] at H
           have c13b0 : decide (57 < (bt a0 x6_1)) = false := decide_eq_false c13
           clear c13
           have H' := qa.mk H
           clear H
           have p10 : 0 ≤ (x6_1 : Int) := of_decide_eq_true cz
           have q10 : x6_1 < (a0.size : Int) := of_decide_eq_true cz
           have hx10 := km a0 x6_1
           replace p10 := eq_true p10
           replace q10 := eq_true q10
           have p12 : 0 ≤ (x6_1 : Int) := of_decide_eq_true cz
           have q12 : x6_1 < (a0.size : Int) := of_decide_eq_true cz
           have hx12 := km a0 x6_1
           replace p12 := eq_true p12
           replace q12 := eq_true q12
           go_wp2
           go_roundg kj2
           case measure => have := HK1.out; have := HJ2.out; omega
           case rel => exact ⟨(x4_1), (x5_1), (wrap64 (x6_1 + 1)), yf, yf, H', ⟨by have := HK1.out; have := HJ2.out; omega⟩, ⟨by (with_reducible repeat (first | apply Kd.zh | apply Kd.zg | apply Kd.zr)); exact HO_4.out⟩, ⟨by repeat (first | (with_reducible first | exact HB.out | apply qc | apply qb | apply qd) | exact HB.out)⟩⟩
        ·rw [if_neg c9] at H
         exact absurd H yt
       ·rw [if_neg c8] at H
        exact absurd H yt
      ·replace c7 := Bool.eq_false_iff.mpr c7
       subst c7
       have H1 : (if 0 ≤ x5_1 then (if x5_1 ≤ x6_1 then (if x6_1 ≤ (a0.size : Int) then (if ((a0.extract (x5_1 : Int).toNat (x6_1 : Int).toNat).size : Int) = 0 then (qm.j2 kj2 a0 x4_1 x6_1 (a0.extract (x5_1 : Int).toNat (x6_1 : Int).toNat) true) else (if ((a0.extract (x5_1 : Int).toNat (x6_1 : Int).toNat).size : Int) > 10 then (qm.j2 kj2 a0 x4_1 x6_1 (a0.extract (x5_1 : Int).toNat (x6_1 : Int).toNat) true) else (if ((a0.extract (x5_1 : Int).toNat (x6_1 : Int).toNat).size : Int) > 1 then (if 0 < ((a0.extract (x5_1 : Int).toNat (x6_1 : Int).toNat).size : Int) then (if (bt (a0.extract (x5_1 : Int).toNat (x6_1 : Int).toNat) 0) = 48 then (qm.j2 kj2 a0 x4_1 x6_1 (a0.extract (x5_1 : Int).toNat (x6_1 : Int).toNat) true) else (qm.j2 kj2 a0 x4_1 x6_1 (a0.extract (x5_1 : Int).toNat (x6_1 : Int).toNat) ((x4_1.length : Int) == 12))) else (none)) else (qm.j2 kj2 a0 x4_1 x6_1 (a0.extract (x5_1 : Int).toNat (x6_1 : Int).toNat) ((x4_1.length : Int) == 12))))) else (none)) else (none)) else (none)) = some (r1, r2) := by rw [if_neg (show ¬ (false = true) by decide)] at H; exact H
       clear H
       have H := H1
       clear H1
       by_cases c14 : 0 ≤ x5_1
       ·rw [if_pos c14] at H
        have c14b0 := eq_true c14
        have c14b1 : decide (0 ≤ x5_1) = true := decide_eq_true c14
        clear c14
        by_cases c15 : x5_1 ≤ x6_1
        ·rw [if_pos c15] at H
         have c15b0 := eq_true c15
         have c15b1 : decide (x5_1 ≤ x6_1) = true := decide_eq_true c15
         clear c15
         by_cases c16 : x6_1 ≤ (a0.size : Int)
         ·rw [if_pos c16] at H
          have c16b0 := eq_true c16
          have c16b1 : decide (x6_1 ≤ (a0.size : Int)) = true := decide_eq_true c16
          clear c16
          have HC17 := qa.mk H
          clear H
          go_upto_region 10 with (fail)
          generalize hd7_ : a0.extract (x5_1 : Int).toNat (x6_1 : Int).toNat = d7_ at *
          clear hd7_
          go_cut [62] (fun v62 wc => ∃ (kq : Nat) (x62_16 : Bool), v62 = .bool x62_16 ∧ qa (qm.j2 kq a0 x4_1 x6_1 d7_ x62_16 = some (r1, r2)) ∧ qa (kq ≤ kj2) ∧ qa (Kd.R (Kd.int .i64) 3 wc w.heap.size (fun _ => True) u4 x4_1) ∧ qa (Below w.heap.size w wc))
          case first =>
           have H := HC17.out
           clear HC17
           by_cases c18 : (d7_.size : Int) = 0
           ·rw [if_pos c18] at H
            have c18b0 : ((d7_.size : Int) == 0) = true := beq_iff_eq.mpr c18
            have c18b1 : ((d7_.size : Int) != 0) = false := bne_eq_false_iff_eq.mpr c18
            clear c18
            (first | rw [c18b0] | (simp only [zm, zq]; rw [c18b0]) | skip)
            have H' := qa.mk H
            clear H
            go_wp2
            go_meet
            case rel => exact ⟨_, (true), yf, H', ⟨by have := HK1.out; have := HJ2.out; first | omega | exact Nat.le_refl _⟩, ⟨by (with_reducible repeat (first | apply Kd.zh | apply Kd.zg | apply Kd.zr)); exact HO_4.out⟩, ⟨by repeat (first | (with_reducible first | exact HB.out | apply qc | apply qb | apply qd) | exact HB.out)⟩⟩
           ·rw [if_neg c18] at H
            have c18b0 : ((d7_.size : Int) == 0) = false := beq_eq_false_iff_ne.mpr c18
            have c18b1 : ((d7_.size : Int) != 0) = true := bne_iff_ne.mpr c18
            (first | rw [c18b0] | (simp only [zm, zq]; rw [c18b0]) | skip)
            by_cases c19 : (d7_.size : Int) > 10
            ·rw [if_pos c19] at H
             have c19b0 : decide (10 < (d7_.size : Int)) = true := decide_eq_true c19
             have c19b1 : decide (10 < d7_.size) = true := decide_eq_true yg
             clear c19
             have H' := qa.mk H
             clear H
             go_wp2
             go_meet
             case rel => exact ⟨_, (true), yf, H', ⟨by have := HK1.out; have := HJ2.out; first | omega | exact Nat.le_refl _⟩, ⟨by (with_reducible repeat (first | apply Kd.zh | apply Kd.zg | apply Kd.zr)); exact HO_4.out⟩, ⟨by repeat (first | (with_reducible first | exact HB.out | apply qc | apply qb | apply qd) | exact HB.out)⟩⟩
            ·rw [if_neg c19] at H
             have c19b0 : decide (10 < (d7_.size : Int)) = false := decide_eq_false c19
             have c19b1 : decide (10 < d7_.size) = false := decide_eq_false yg
             clear c19
             by_cases c20 : (d7_.size : Int) > 1
             ·rw [if_pos c20] at H
              have c20b0 : decide (1 < (d7_.size : Int)) = true := decide_eq_true c20
              have c20b1 : decide (1 < d7_.size) = true := decide_eq_true yg
              clear c20
              by_cases c21 : 0 < (d7_.size : Int)
              ·rw [if_pos c21] at H
               have c21b0 : decide (0 < (d7_.size : Int)) = true := decide_eq_true c21
               have c21b1 : decide (0 < d7_.size) = true := decide_eq_true yg
               clear c21
               by_cases c23 : (bt d7_ 0) = 48
               ·rw [if_pos c23] at H
                have c23b0 : ((bt d7_ 0) == 48) = true := beq_iff_eq.mpr c23
                have c23b1 : ((bt d7_ 0) != 48) = false := bne_eq_false_iff_eq.mpr c23
                clear c23
                have H' := qa.mk H
                clear H
                have p22 : 0 ≤ (0 : Int) := yg
                have q22 : 0 < d7_.size := (by have : (0 : Int) < (d7_.size : Int) := of_decide_eq_true cz; omega)
                have hx22 : ∀ h : 0 < d7_.size, ((d7_[0]'h).toNat : Int) = bt d7_ 0 := km d7_ 0
                clear p22
                have qi22 : (0 < (d7_.size : Int)) = True := eq_true (of_decide_eq_true cz)
                replace q22 := eq_true q22
                go_wp2
                go_meet
                case rel => exact ⟨_, (true), yf, H', ⟨by have := HK1.out; have := HJ2.out; first | omega | exact Nat.le_refl _⟩, ⟨by (with_reducible repeat (first | apply Kd.zh | apply Kd.zg | apply Kd.zr)); exact HO_4.out⟩, ⟨by repeat (first | (with_reducible first | exact HB.out | apply qc | apply qb | apply qd) | exact HB.out)⟩⟩
               ·rw [if_neg c23] at H
                have c23b0 : ((bt d7_ 0) == 48) = false := beq_eq_false_iff_ne.mpr c23
                have c23b1 : ((bt d7_ 0) != 48) = true := bne_iff_ne.mpr c23
                have H' := qa.mk H
                clear H
                have p22 : 0 ≤ (0 : Int) := yg
                have q22 : 0 < d7_.size := (by have : (0 : Int) < (d7_.size : Int) := of_decide_eq_true cz; omega)
                have hx22 : ∀ h : 0 < d7_.size, ((d7_[0]'h).toNat : Int) = bt d7_ 0 := km d7_ 0
                clear p22
                have qi22 : (0 < (d7_.size : Int)) = True := eq_true (of_decide_eq_true cz)
                replace q22 := eq_true q22
                obtain ⟨Ao24, co24, eo24⟩ := Kd.kj HO_4.out
                subst eo24
                go_wp2
                go_meet
                case rel => exact ⟨_, (((x4_1.length : Int) == 12)), yf, H', ⟨by have := HK1.out; have := HJ2.out; first | omega | exact Nat.le_refl _⟩, ⟨by (with_reducible repeat (first | apply Kd.zh | apply Kd.zg | apply Kd.zr)); exact HO_4.out⟩, ⟨by repeat (first | (with_reducible first | exact HB.out | apply qc | apply qb | apply qd) | exact HB.out)⟩⟩
              ·rw [if_neg c21] at H
               exact absurd H yt
             ·rw [if_neg c20] at H
              have c20b0 : decide (1 < (d7_.size : Int)) = false := decide_eq_false c20
              have c20b1 : decide (1 < d7_.size) = false := decide_eq_false yg
              clear c20
              have H' := qa.mk H
              clear H
              obtain ⟨Ao25, co25, eo25⟩ := Kd.kj HO_4.out
              subst eo25
              go_wp2
              go_meet
              case rel => exact ⟨_, (((x4_1.length : Int) == 12)), yf, H', ⟨by have := HK1.out; have := HJ2.out; first | omega | exact Nat.le_refl _⟩, ⟨by (with_reducible repeat (first | apply Kd.zh | apply Kd.zg | apply Kd.zr)); exact HO_4.out⟩, ⟨by repeat (first | (with_reducible first | exact HB.out | apply qc | apply qb | apply qd) | exact HB.out)⟩⟩
          case rest =>
           clear HC17
           (try clear c1); (try clear p1); (try clear q1); (try clear hx1); (try clear c2); (try clear c2b0); (try clear p2); (try clear q2); (try clear hx2); (try clear qi2); (try clear c4); try clear c4b0
           (try clear c5); (try clear c5b0); (try clear p6); (try clear q6); (try clear hx6); (try clear c7); (try clear c8); (try clear c8b0); (try clear c9); (try clear c9b0); try clear c10
           (try clear p10); (try clear q10); (try clear hx10); (try clear c11); (try clear c11b0); (try clear p12); (try clear q12); (try clear hx12); (try clear c13); (try clear c13b0); try clear c14
           (try clear c14b0); (try clear c14b1); (try clear c15); (try clear c15b0); (try clear c15b1); (try clear c16); (try clear c16b0); (try clear c16b1); (try clear c18); try clear c18b0
           (try clear c18b1); (try clear c19); (try clear c19b0); (try clear c19b1); (try clear c20); (try clear c20b0); (try clear c20b1); (try clear c21); (try clear c21b0); try clear c21b1
           (try clear p22); (try clear q22); (try clear hx22); (try clear qi22); (try clear c23); (try clear c23b0); (try clear c23b1); (try clear p10); (try clear p12); (try clear p2); try clear p22
           (try clear p6); (try clear q10); (try clear q12); (try clear q22); try clear q6
           obtain ⟨kq, x62_16, rfl, HA, HJ16, HO_4, HB⟩ := hcut
           cases kq with
           | zero => exact absurd HA.out (by simp [qm.j2])
           | succ kj16 =>
            have H := HA.out
            clear HA
            simp only [qm.j2] at H
            by_cases c26 : x62_16 = true
            ·subst c26
             have H1 : (some (([] : List Int), false)) = some (r1, r2) := by rw [if_pos rfl] at H; exact H
             clear H
             have H := H1
             clear H1
             simp only [Option.some.injEq, Prod.mk.injEq] at H
             obtain ⟨rfl, rfl⟩ := H
             go_wp2
             go_ret2
             exact ⟨_, by first | rfl | (simp [qu, qt] <;> rfl) | (simp [*, qu, qt] <;> rfl), by first | exact Kd.R_nil _ _ _ _ _ | exact Kd.N_nil _ _ _ _ _ | exact Kd.V_nil _ _ _ _ _ | exact Kd.Q_nil _ _ _ _ _ | exact Kd.S_nil _ _ _ _ _, by repeat (first | (with_reducible first | exact HB.out | apply qc | apply qb | apply qd) | exact HB.out)⟩
            ·replace c26 := Bool.eq_false_iff.mpr c26
             subst c26
             have H1 : (qm.l1 kj16 a0 x4_1 x6_1 d7_ 0 0) = some (r1, r2) := by rw [if_neg (show ¬ (false = true) by decide)] at H; exact H
             clear H
             have H := H1
             clear H1
             have H' := qa.mk H
             clear H
             go_wp2
             go_loopg [8, 9] kj16 (fun kq v8 v9 w' => ∃ (x8_4 : Int) (x9_4 : Int), v8 = .int .i64 x8_4 ∧ v9 = .int .i64 x9_4 ∧ qa (qm.l1 kq a0 x4_1 x6_1 d7_ x8_4 x9_4 = some (r1, r2)) ∧ qa (kq ≤ kj16) ∧ qa (Kd.R (Kd.int .i64) 3 w' w.heap.size (fun _ => True) u4 x4_1) ∧ qa (Below w.heap.size w w'))
             case atStart => exact ⟨(0), (0), yf, yf, H', ⟨Nat.le_refl _⟩, ⟨by (with_reducible repeat (first | apply Kd.zh | apply Kd.zg | apply Kd.zr)); exact HO_4.out⟩, ⟨by repeat (first | (with_reducible first | exact HB.out | apply qc | apply qb | apply qd) | exact HB.out)⟩⟩
             case round =>
              clear H'
              (try clear c1); (try clear p1); (try clear q1); (try clear hx1); (try clear c2); (try clear c2b0); (try clear p2); (try clear q2); (try clear hx2); (try clear qi2); try clear c4
              (try clear c4b0); (try clear c5); (try clear c5b0); (try clear p6); (try clear q6); (try clear hx6); (try clear c7); (try clear c8); (try clear c8b0); (try clear c9); try clear c9b0
              (try clear c10); (try clear p10); (try clear q10); (try clear hx10); (try clear c11); (try clear c11b0); (try clear p12); (try clear q12); (try clear hx12); (try clear c13); try clear c13b0
              (try clear c14); (try clear c14b0); (try clear c14b1); (try clear c15); (try clear c15b0); (try clear c15b1); (try clear c16); (try clear c16b0); (try clear c16b1); try clear c18
              (try clear c18b0); (try clear c18b1); (try clear c19); (try clear c19b0); (try clear c19b1); (try clear c20); (try clear c20b0); (try clear c20b1); (try clear c21); try clear c21b0
              (try clear c21b1); (try clear p22); (try clear q22); (try clear hx22); (try clear qi22); (try clear c23); (try clear c23b0); (try clear c23b1); (try clear c26); try clear p1
              (try clear p10); (try clear p12); (try clear p2); (try clear p22); (try clear p6); (try clear q1); (try clear q10); (try clear q12); (try clear q2); (try clear q22); try clear q6
              obtain ⟨x8_4, x9_4, rfl, rfl, HA, HK4, HO_4, HB⟩ := hrel
              cases gk with
              | zero => exact absurd HA.out (by simp [qm.l1])
              | succ k4 =>
               have H := HA.out
               clear HA
               simp only [qm.l1] at H
               by_cases c27 : x9_4 < (d7_.size : Int)
               ·rw [if_pos c27] at H
                have c27b0 : decide (x9_4 < (d7_.size : Int)) = true := decide_eq_true c27
                clear c27
                by_cases c28 : 0 ≤ x9_4
                ·rw [if_pos c28] at H
                 have c28b0 : decide (0 ≤ x9_4) = true := decide_eq_true c28
                 clear c28
                 have H' := qa.mk H
                 clear H
                 have p29 : 0 ≤ (x9_4 : Int) := of_decide_eq_true cz
                 have q29 : x9_4 < (d7_.size : Int) := of_decide_eq_true cz
                 have hx29 := km d7_ x9_4
                 replace p29 := eq_true p29
                 replace q29 := eq_true q29
                 go_wp2
                 go_roundg k4
                 case measure => have := HK1.out; have := HJ2.out; have := HJ16.out; have := HK4.out; omega
                 case rel => exact ⟨(wrap64 ((wrap64 (10 * x8_4)) + (((bt d7_ x9_4) - 48) % 256))), (wrap64 (x9_4 + 1)), yf, yf, H', ⟨by have := HK1.out; have := HJ2.out; have := HJ16.out; have := HK4.out; omega⟩, ⟨by (with_reducible repeat (first | apply Kd.zh | apply Kd.zg | apply Kd.zr)); exact HO_4.out⟩, ⟨by repeat (first | (with_reducible first | exact HB.out | apply qc | apply qb | apply qd) | exact HB.out)⟩⟩
                ·rw [if_neg c28] at H
                 exact absurd H yt
               ·rw [if_neg c27] at H
                have c27b0 : decide (x9_4 < (d7_.size : Int)) = false := decide_eq_false c27
                clear c27
                by_cases c30 : x8_4 > 2147483647
                ·rw [if_pos c30] at H
                 have c30b0 : decide (2147483647 < x8_4) = true := decide_eq_true c30
                 clear c30
                 simp only [Option.some.injEq, Prod.mk.injEq] at H
                 obtain ⟨rfl, rfl⟩ := H
                 go_wp2
                 go_ret2
                 exact ⟨_, by first | rfl | (simp [qu, qt] <;> rfl) | (simp [*, qu, qt] <;> rfl), by first | exact Kd.R_nil _ _ _ _ _ | exact Kd.N_nil _ _ _ _ _ | exact Kd.V_nil _ _ _ _ _ | exact Kd.Q_nil _ _ _ _ _ | exact Kd.S_nil _ _ _ _ _, by repeat (first | (with_reducible first | exact HB.out | apply qc | apply qb | apply qd) | exact HB.out)⟩
                ·rw [if_neg c30] at H
                 have c30b0 : decide (2147483647 < x8_4) = false := decide_eq_false c30
                 clear c30
                 by_cases c31 : x4_1.length < 17592186044416
                 ·rw [if_pos c31] at H
                  have LMc31 := qa.mk c31
                  clear c31
                  obtain ⟨y224, hy224⟩ : ∃ y_ : List Int, y_ = (x4_1 ++ [x8_4]) := ⟨_, rfl⟩
                  replace H : (qm.l0 k4 a0 y224 (wrap64 (x6_1 + 1)) (wrap64 (x6_1 + 1))) = some (r1, r2) := by first | (rw [hy224]; with_reducible exact H) | (have H2_ := (Option.bind_some _ _).symm.trans H; rw [hy224]; with_reducible exact H2_) | (have H2_ := (Option.bind_some _ _).symm.trans H; with_reducible exact H2_) | with_reducible exact H | (rw [hy224]; exact H) | exact H
                  have Ny224 := qa.mk hy224
                  clear hy224
                  have H' := qa.mk H
                  clear H
                  go_wp2_with (first | ((with_reducible refine xo (b := .append) (xs := #[.tmp 79, .tmp 81]) rfl ?_); (try (refine kg (by rfl) ?_; dsimp only)); at_builtin; refine Kd.kv (Kd.int .i64) (w0 := w) w.heap.size rfl (.tmp 79) (.tmp 81) 22 3 (.int .i64 0) 8 rfl Tryz.underlying22 info3 rfl (by decide) yg u4 x4_1 x8_4 [.int .i64 x8_4] (fun _ => True) (fun _ => False) rfl rfl ?aP (fun _ hk => hk.elim) ?aF ?aO ?aB ?aS ?aL ?_; (case aP => exact rfl); (case aB => exact cu); (case aF => exact (fun _ _ => trivial)); (case aO => exact yz); (case aS => exact (qr cu)); (case aL => have := LMc31.out; omega); intro v225 w32 ho hb hg hat; rw [← Ny224.out] at ho; have n0_ := qa.mk (hb); have n1_ := qa.mk (ho); clear HB; clear HO_4; have HB := n0_; have HO226 := n1_; clear n0_ n1_; clear ho hb hg hat))
                  go_roundg k4
                  case measure => have := HK1.out; have := HJ2.out; have := HJ16.out; have := HK4.out; omega
                  case rel => exact ⟨(y224), (wrap64 (x6_1 + 1)), (wrap64 (x6_1 + 1)), yf, yf, H', ⟨by have := HK1.out; have := HJ2.out; have := HJ16.out; have := HK4.out; omega⟩, ⟨by (with_reducible repeat (first | apply Kd.zh | apply Kd.zg | apply Kd.zr)); exact HO226.out⟩, ⟨by repeat (first | (with_reducible first | exact HB.out | apply qc | apply qb | apply qd) | exact HB.out)⟩⟩
                 ·rw [if_neg c31] at H
                  exact absurd H yt
         ·rw [if_neg c16] at H
          exact absurd H yt
        ·rw [if_neg c15] at H
         exact absurd H yt
       ·rw [if_neg c14] at H
        exact absurd H yt
   ·rw [if_neg c2] at H
    have c2b0 : decide (x6_1 ≤ (a0.size : Int)) = false := decide_eq_false c2
    clear c2
    have HC33 := qa.mk H
    clear H
    go_upto_region 20 with (fail)
    go_cut [105] (fun v105 wc => ∃ (kq : Nat) (x105_32 : Bool), v105 = .bool x105_32 ∧ qa (qm.j4 kq x4_1 x105_32 = some (r1, r2)) ∧ qa (kq ≤ k1) ∧ qa (Kd.R (Kd.int .i64) 3 wc w.heap.size (fun _ => True) u4 x4_1) ∧ qa (Below w.heap.size w wc))
    case first =>
     have H := HC33.out
     clear HC33
     by_cases c34 : (x4_1.length : Int) < 2
     ·rw [if_pos c34] at H
      have c34b0 : decide ((x4_1.length : Int) < 2) = true := decide_eq_true c34
      have c34b1 : decide (x4_1.length < 2) = true := decide_eq_true yg
      clear c34
      (first | rw [c34b0] | (simp only [zm, zq]; rw [c34b0]) | skip)
      have H' := qa.mk H
      clear H
      obtain ⟨Ao35, co35, eo35⟩ := Kd.kj HO_4.out
      subst eo35
      go_wp2
      go_meet
      case rel => exact ⟨_, (true), yf, H', ⟨by have := HK1.out; first | omega | exact Nat.le_refl _⟩, ⟨by (with_reducible repeat (first | apply Kd.zh | apply Kd.zg | apply Kd.zr)); exact HO_4.out⟩, ⟨by repeat (first | (with_reducible first | exact HB.out | apply qc | apply qb | apply qd) | exact HB.out)⟩⟩
     ·rw [if_neg c34] at H
      have c34b0 : decide ((x4_1.length : Int) < 2) = false := decide_eq_false c34
      have c34b1 : decide (x4_1.length < 2) = false := decide_eq_false yg
      clear c34
      (first | rw [c34b0] | (simp only [zm, zq]; rw [c34b0]) | skip)
      by_cases c36 : 0 < (x4_1.length : Int)
      ·rw [if_pos c36] at H
       have c36b0 : decide (0 < (x4_1.length : Int)) = true := decide_eq_true c36
       have c36b1 : decide (0 < x4_1.length) = true := decide_eq_true yg
       clear c36
       by_cases c37 : (rd x4_1 0) > 2
       ·rw [if_pos c37] at H
        have c37b0 : decide (2 < (rd x4_1 0)) = true := decide_eq_true c37
        clear c37
        have H' := qa.mk H
        clear H
        obtain ⟨Ao38, co38, eo38⟩ := Kd.kj HO_4.out
        subst eo38
        have p227 : 0 ≤ (0 : Int) := yg
        have q227 : 0 < (x4_1.length : Int) := of_decide_eq_true cz
        obtain ⟨ad227, e227, hx227_0⟩ := Kd.at_int (Kd.xp HO_4.out).2.2 0 p227 q227
        cases e227
        have qi227 : (0 < x4_1.length) = True := eq_true yg
        (try rw [show ((0 : Int)).toNat = 0 from rfl] at hx227_0)
        (try rw [Addr.add_zero'] at hx227_0)
        replace p227 := eq_true p227
        replace q227 := eq_true q227
        go_wp2
        go_meet
        case rel => exact ⟨_, (true), yf, H', ⟨by have := HK1.out; first | omega | exact Nat.le_refl _⟩, ⟨by (with_reducible repeat (first | apply Kd.zh | apply Kd.zg | apply Kd.zr)); exact HO_4.out⟩, ⟨by repeat (first | (with_reducible first | exact HB.out | apply qc | apply qb | apply qd) | exact HB.out)⟩⟩
       ·rw [if_neg c37] at H
        have c37b0 : decide (2 < (rd x4_1 0)) = false := decide_eq_false c37
        clear c37
        by_cases c39 : (rd x4_1 0) < 2
        ·rw [if_pos c39] at H
         have c39b0 : decide ((rd x4_1 0) < 2) = true := decide_eq_true c39
         clear c39
         by_cases c40 : 1 < (x4_1.length : Int)
         ·rw [if_pos c40] at H
          have c40b0 : decide (1 < (x4_1.length : Int)) = true := decide_eq_true c40
          have c40b1 : decide (1 < x4_1.length) = true := decide_eq_true yg
          clear c40
          have H' := qa.mk H
          clear H
          obtain ⟨Ao41, co41, eo41⟩ := Kd.kj HO_4.out
          subst eo41
          have p227 : 0 ≤ (0 : Int) := yg
          have q227 : 0 < (x4_1.length : Int) := of_decide_eq_true cz
          obtain ⟨ad227, e227, hx227_0⟩ := Kd.at_int (Kd.xp HO_4.out).2.2 0 p227 q227
          cases e227
          have qi227 : (0 < x4_1.length) = True := eq_true yg
          (try rw [show ((0 : Int)).toNat = 0 from rfl] at hx227_0)
          (try rw [Addr.add_zero'] at hx227_0)
          replace p227 := eq_true p227
          replace q227 := eq_true q227
          have p228 : 0 ≤ (0 : Int) := yg
          have q228 : 0 < (x4_1.length : Int) := of_decide_eq_true cz
          obtain ⟨ad228, e228, hx228_0⟩ := Kd.at_int (Kd.xp HO_4.out).2.2 0 p228 q228
          obtain rfl : ad227 = ad228 := (by injection e228)
          have qi228 : (0 < x4_1.length) = True := eq_true yg
          (try rw [show ((0 : Int)).toNat = 0 from rfl] at hx228_0)
          (try rw [Addr.add_zero'] at hx228_0)
          replace p228 := eq_true p228
          replace q228 := eq_true q228
          have p229 : 0 ≤ (1 : Int) := yg
          have q229 : 1 < (x4_1.length : Int) := of_decide_eq_true cz
          obtain ⟨ad229, e229, hx229_0⟩ := Kd.at_int (Kd.xp HO_4.out).2.2 1 p229 q229
          obtain rfl : ad227 = ad229 := (by injection e229)
          (try simp only [show (1 : Int).toNat = 1 from rfl, Nat.reduceMul, Nat.reduceEqDiff, Go.Addr.add, ↓reduceIte] at hx229_0)
          have qi229 : (1 < x4_1.length) = True := eq_true yg
          (try rw [show ((1 : Int)).toNat = 1 from rfl] at hx229_0)
          replace p229 := eq_true p229
          replace q229 := eq_true q229
          go_wp2
          go_meet
          case rel => exact ⟨_, (decide ((rd x4_1 1) > 39)), yf, H', ⟨by have := HK1.out; first | omega | exact Nat.le_refl _⟩, ⟨by (with_reducible repeat (first | apply Kd.zh | apply Kd.zg | apply Kd.zr)); exact HO_4.out⟩, ⟨by repeat (first | (with_reducible first | exact HB.out | apply qc | apply qb | apply qd) | exact HB.out)⟩⟩
         ·rw [if_neg c40] at H
          exact absurd H yt
        ·rw [if_neg c39] at H
         have c39b0 : decide ((rd x4_1 0) < 2) = false := decide_eq_false c39
         clear c39
         have H' := qa.mk H
         clear H
         obtain ⟨Ao42, co42, eo42⟩ := Kd.kj HO_4.out
         subst eo42
         have p227 : 0 ≤ (0 : Int) := yg
         have q227 : 0 < (x4_1.length : Int) := of_decide_eq_true cz
         obtain ⟨ad227, e227, hx227_0⟩ := Kd.at_int (Kd.xp HO_4.out).2.2 0 p227 q227
         cases e227
         have qi227 : (0 < x4_1.length) = True := eq_true yg
         (try rw [show ((0 : Int)).toNat = 0 from rfl] at hx227_0)
         (try rw [Addr.add_zero'] at hx227_0)
         replace p227 := eq_true p227
         replace q227 := eq_true q227
         have p228 : 0 ≤ (0 : Int) := yg
         have q228 : 0 < (x4_1.length : Int) := of_decide_eq_true cz
         obtain ⟨ad228, e228, hx228_0⟩ := Kd.at_int (Kd.xp HO_4.out).2.2 0 p228 q228
         obtain rfl : ad227 = ad228 := (by injection e228)
         have qi228 : (0 < x4_1.length) = True := eq_true yg
         (try rw [show ((0 : Int)).toNat = 0 from rfl] at hx228_0)
         (try rw [Addr.add_zero'] at hx228_0)
         replace p228 := eq_true p228
         replace q228 := eq_true q228
         go_wp2
         go_meet
         case rel => exact ⟨_, (false), yf, H', ⟨by have := HK1.out; first | omega | exact Nat.le_refl _⟩, ⟨by (with_reducible repeat (first | apply Kd.zh | apply Kd.zg | apply Kd.zr)); exact HO_4.out⟩, ⟨by repeat (first | (with_reducible first | exact HB.out | apply qc | apply qb | apply qd) | exact HB.out)⟩⟩
      ·rw [if_neg c36] at H
       exact absurd H yt
    case rest =>
     clear HC33
     (try clear c1); (try clear p1); (try clear q1); (try clear hx1); (try clear c2); (try clear c2b0); (try clear p2); (try clear q2); (try clear hx2); (try clear qi2); (try clear c3); try clear c4
     (try clear c4b0); (try clear c5); (try clear c5b0); (try clear p6); (try clear q6); (try clear hx6); (try clear c7); (try clear c8); (try clear c8b0); (try clear c9); (try clear c9b0); try clear c10
     (try clear p10); (try clear q10); (try clear hx10); (try clear c11); (try clear c11b0); (try clear p12); (try clear q12); (try clear hx12); (try clear c13); (try clear c13b0); (try clear c14); try clear c14b0
     (try clear c14b1); (try clear c15); (try clear c15b0); (try clear c15b1); (try clear c16); (try clear c16b0); (try clear c16b1); (try clear c18); (try clear c18b0); (try clear c18b1); try clear c19
     (try clear c19b0); (try clear c19b1); (try clear c20); (try clear c20b0); (try clear c20b1); (try clear c21); (try clear c21b0); (try clear c21b1); (try clear p22); (try clear q22); try clear hx22
     (try clear qi22); (try clear c23); (try clear c23b0); (try clear c23b1); (try clear c26); (try clear c27); (try clear c27b0); (try clear c28); (try clear c28b0); (try clear p29); try clear q29
     (try clear hx29); (try clear c30); (try clear c30b0); (try clear c31); (try clear c34); (try clear c34b0); (try clear c34b1); (try clear c36); (try clear c36b0); (try clear c36b1); try clear c37
     (try clear c37b0); (try clear c39); (try clear c39b0); (try clear c40); (try clear c40b0); (try clear c40b1); (try clear hx227_0); (try clear hx228_0); (try clear hx229_0); (try clear p1); try clear p10
     (try clear p12); (try clear p2); (try clear p22); (try clear p227); (try clear p228); (try clear p229); (try clear p29); (try clear p6); (try clear q1); (try clear q10); (try clear q12); try clear q2
     (try clear q22); (try clear q227); (try clear q228); (try clear q229); (try clear q29); try clear q6
     obtain ⟨kq, x105_32, rfl, HA, HJ32, HO_4, HB⟩ := hcut
     cases kq with
     | zero => exact absurd HA.out (by simp [qm.j4])
     | succ kj32 =>
      have H := HA.out
      clear HA
      simp only [qm.j4] at H
      by_cases c43 : x105_32 = true
      ·subst c43
       have H1 : (some (([] : List Int), false)) = some (r1, r2) := by rw [if_pos rfl] at H; exact H
       clear H
       have H := H1
       clear H1
       simp only [Option.some.injEq, Prod.mk.injEq] at H
       obtain ⟨rfl, rfl⟩ := H
       go_wp2
       go_ret2
       exact ⟨_, by first | rfl | (simp [qu, qt] <;> rfl) | (simp [*, qu, qt] <;> rfl), by first | exact Kd.R_nil _ _ _ _ _ | exact Kd.N_nil _ _ _ _ _ | exact Kd.V_nil _ _ _ _ _ | exact Kd.Q_nil _ _ _ _ _ | exact Kd.S_nil _ _ _ _ _, by repeat (first | (with_reducible first | exact HB.out | apply qc | apply qb | apply qd) | exact HB.out)⟩
      ·replace c43 := Bool.eq_false_iff.mpr c43
       subst c43
       have H1 : (some (x4_1, true)) = some (r1, r2) := by rw [if_neg (show ¬ (false = true) by decide)] at H; exact H
       clear H
       have H := H1
       clear H1
       simp only [Option.some.injEq, Prod.mk.injEq] at H
       obtain ⟨rfl, rfl⟩ := H
       go_wp2
       go_ret2
       exact ⟨_, by first | rfl | (simp [qu, qt] <;> rfl) | (simp [*, qu, qt] <;> rfl), by (with_reducible repeat (first | apply Kd.zh | apply Kd.zg | apply Kd.zr)); exact HO_4.out, by repeat (first | (with_reducible first | exact HB.out | apply qc | apply qb | apply qd) | exact HB.out)⟩
end Go.Proofs.YthdoohfdminfgaaGreatDoor.C
end
section
namespace Go.Proofs.YthdoohfdminfgaaGreatDoor.C
open Go.RowKit Go.Proofs.YthdoohfdminfgaaGreatDoorW.PrintWords Go.Proofs.YthdoohfdminfgaaGreatDoorW.PrintLast Go.Proofs.YthdoohfdminfgaaGreatDoorW.PrintMore
attribute [local go_sem] xa z7 xq xr zx zy xc z8
set_option linter.unusedVariables false
set_option linter.unusedSimpArgs false
def zj.f (k : Nat) (a0 : ByteArray) : Option (Bool) := (qm.f k a0).bind fun bt230 => (some bt230.2)
theorem zj.mono : ∀ a0 k, LeO (zj.f k a0) (zj.f (k + 1) a0) := by
 intro a0 k
 unfold zj.f
 repeat' first
   | (with_reducible exact qm.mono _ _)
   | (with_reducible exact LeO.refl _)
   | (with_reducible exact LeO.none _)
   | (with_reducible refine LeO.ite ?_ ?_)
   | (with_reducible refine LeO.bind ?_ (fun _ => ?_))
set_option maxHeartbeats 8000000 in
set_option maxRecDepth 100000 in
theorem zj.calls (k : Nat) (a0 : ByteArray) (r : Bool) (w : World) (h : zj.f k a0 = some r) :
  Calls Tryz.prog 76 #[.string a0] w fun e w' => e = .returned (.bool r) ∧ Below w.heap.size w w' := by
 have HB := qa.mk (Below.refl w.heap.size w)
 have H : ((qm.f k a0).bind fun bt230 => (some bt230.2)) = some r := h
 clear h
 replace H := Option.bind_eq_some_iff.mp H
 obtain ⟨⟨t230, t231⟩, A20, H⟩ := H
 replace H : (some t231) = some r := H
 have A2 := qa.mk A20
 clear A20
 obtain rfl := Option.some.inj H
 go_enter Tryz.func76, Tryz.ntmps76
 go_wp2_with (first | ((with_reducible refine zn (f := 108) rfl ?_); refine kd (some 7) rfl rfl Tryz.func108 yj rfl #[.string a0] rfl yc ?_; (with_reducible refine (qm.calls k a0 t230 t231 _ A2.out).mono ?_); rintro e w3 ⟨v232, rfl, ho0, hb⟩; refine ⟨_, rfl, ?_⟩; have n0_ := qa.mk (Kd.R_lower ho0 (qr cu)); have n1_ := qa.mk (qp cu hb); clear HB; have HO233 := n0_; have HB := n1_; clear n0_ n1_; (try clear hb); (try clear hb2); (try clear hk); (try clear hi); (try clear ho0)))
 go_ret
 exact ⟨by first | rfl | (simp [qu, qt] <;> rfl) | (simp [*, qu, qt] <;> rfl), by repeat (first | (with_reducible first | exact HB.out | apply qc | apply qb | apply qd) | exact HB.out)⟩
end Go.Proofs.YthdoohfdminfgaaGreatDoor.C
end
section
namespace Go.Proofs.YthdoohfdminfgaaGreatDoor.C
open Go.RowKit Go.Proofs.YthdoohfdminfgaaGreatDoorW.PrintWords Go.Proofs.YthdoohfdminfgaaGreatDoorW.PrintLast Go.Proofs.YthdoohfdminfgaaGreatDoorW.PrintMore
attribute [local go_sem] xa z7 xq xr zx zy xc z8
set_option linter.unusedVariables false
set_option linter.unusedSimpArgs false
mutual
def qh.l0 : Nat → ByteArray → Int → Option (Bool)
 | 0, _, _ => none
 | k + 1, x0, x3 => if x3 < (x0.size : Int) then (if 0 ≤ x3 then (if (bt x0 x3) < 32 then (qh.j1 k x0 x3 (bt x0 x3) true) else (qh.j1 k x0 x3 (bt x0 x3) ((bt x0 x3) == 127))) else (none)) else (some true)
def qh.j4 : Nat → ByteArray → Int → Int → Int → Int → Option (Bool)
 | 0, _, _, _, _, _ => none
 | k + 1, x0, x3, x4, x5, x6 => if (wrap64 ((x0.size : Int) - x3)) ≤ x5 then (some false) else (if 0 ≤ (wrap64 (6 - x5)) then (qh.l1 k x0 x3 x5 x6 (Go.bits .and .i64 (wrap64 (x4)) (wrap64 ((shl .i64 1 (wrap64 (6 - x5))) - 1))) 1) else (none))
def qh.l1 : Nat → ByteArray → Int → Int → Int → Int → Int → Option (Bool)
 | 0, _, _, _, _, _, _ => none
 | k + 1, x0, x3, x5, x6, x7, x8 => if x8 ≤ x5 then (if 0 ≤ (wrap64 (x3 + x8)) then (if (wrap64 (x3 + x8)) < (x0.size : Int) then (if ((Int.tdiv (bt x0 (wrap64 (x3 + x8))) 64) % 256) = 2 then (qh.l1 k x0 x3 x5 x6 (wrap64 ((wrap64 (64 * x7)) + (wrap64 (Int.tmod (bt x0 (wrap64 (x3 + x8))) 64)))) (wrap64 (x8 + 1))) else (some false)) else (none)) else (none)) else (if x7 < x6 then (qh.j6 k x0 x3 x5 true) else (if x7 > 1114111 then (qh.j6 k x0 x3 x5 true) else (if x7 ≥ 55296 then (qh.j6 k x0 x3 x5 (decide (x7 < 57344))) else (qh.j6 k x0 x3 x5 false))))
def qh.j6 : Nat → ByteArray → Int → Int → Bool → Option (Bool)
 | 0, _, _, _, _ => none
 | k + 1, x0, x3, x5, x98 => if x98 = true then (some false) else (qh.l0 k x0 (wrap64 (x3 + (wrap64 (x5 + 1)))))
def qh.j1 : Nat → ByteArray → Int → Int → Bool → Option (Bool)
 | 0, _, _, _, _ => none
 | k + 1, x0, x3, x4, x16 => if x16 = true then (some false) else (if x4 < 128 then (qh.l0 k x0 (wrap64 (x3 + 1))) else (if x4 ≥ 192 then (qh.j2 k x0 x3 x4 (decide (x4 < 224))) else (qh.j2 k x0 x3 x4 false)))
def qh.j2 : Nat → ByteArray → Int → Int → Bool → Option (Bool)
 | 0, _, _, _, _ => none
 | k + 1, x0, x3, x4, x28 => if x28 = true then (qh.j4 k x0 x3 x4 1 128) else (if x4 ≥ 224 then (qh.j3 k x0 x3 x4 (decide (x4 < 240))) else (qh.j3 k x0 x3 x4 false))
def qh.j3 : Nat → ByteArray → Int → Int → Bool → Option (Bool)
 | 0, _, _, _, _ => none
 | k + 1, x0, x3, x4, x35 => if x35 = true then (qh.j4 k x0 x3 x4 2 2048) else (if x4 ≥ 240 then (if x4 < 248 then (qh.j4 k x0 x3 x4 3 65536) else (some false)) else (some false))
end
def qh.f (k : Nat) (a0 : ByteArray) : Option (Bool) := qh.l0 k a0 0
theorem qh.xi : ∀ k, (∀ y0 y1, LeO (qh.l0 k y0 y1) (qh.l0 (k + 1) y0 y1)) ∧ (∀ y0 y1 y2 y3 y4, LeO (qh.j4 k y0 y1 y2 y3 y4) (qh.j4 (k + 1) y0 y1 y2 y3 y4)) ∧ (∀ y0 y1 y2 y3 y4 y5, LeO (qh.l1 k y0 y1 y2 y3 y4 y5) (qh.l1 (k + 1) y0 y1 y2 y3 y4 y5)) ∧ (∀ y0 y1 y2 y3, LeO (qh.j6 k y0 y1 y2 y3) (qh.j6 (k + 1) y0 y1 y2 y3)) ∧ (∀ y0 y1 y2 y3, LeO (qh.j1 k y0 y1 y2 y3) (qh.j1 (k + 1) y0 y1 y2 y3)) ∧ (∀ y0 y1 y2 y3, LeO (qh.j2 k y0 y1 y2 y3) (qh.j2 (k + 1) y0 y1 y2 y3)) ∧ (∀ y0 y1 y2 y3, LeO (qh.j3 k y0 y1 y2 y3) (qh.j3 (k + 1) y0 y1 y2 y3))
 | 0 => ⟨fun _ _ r h => by simp [qh.l0] at h, fun _ _ _ _ _ r h => by simp [qh.j4] at h, fun _ _ _ _ _ _ r h => by simp [qh.l1] at h, fun _ _ _ _ r h => by simp [qh.j6] at h, fun _ _ _ _ r h => by simp [qh.j1] at h, fun _ _ _ _ r h => by simp [qh.j2] at h, fun _ _ _ _ r h => by simp [qh.j3] at h⟩
 | k + 1 => by
  obtain ⟨ih0, ih1, ih2, ih3, ih4, ih5, ih6⟩ := qh.xi k
  refine ⟨?_, ?_, ?_, ?_, ?_, ?_, ?_⟩
  ·intro y0 y1
   unfold qh.l0
   repeat' first
   | (with_reducible exact ih0 _ _)
   | (with_reducible exact ih1 _ _ _ _ _)
   | (with_reducible exact ih2 _ _ _ _ _ _)
   | (with_reducible exact ih3 _ _ _ _)
   | (with_reducible exact ih4 _ _ _ _)
   | (with_reducible exact ih5 _ _ _ _)
   | (with_reducible exact ih6 _ _ _ _)
   | (with_reducible exact LeO.refl _)
   | (with_reducible exact LeO.none _)
   | (with_reducible refine LeO.ite ?_ ?_)
   | (with_reducible refine LeO.bind ?_ (fun _ => ?_))
  ·intro y0 y1 y2 y3 y4
   unfold qh.j4
   repeat' first
   | (with_reducible exact ih0 _ _)
   | (with_reducible exact ih1 _ _ _ _ _)
   | (with_reducible exact ih2 _ _ _ _ _ _)
   | (with_reducible exact ih3 _ _ _ _)
   | (with_reducible exact ih4 _ _ _ _)
   | (with_reducible exact ih5 _ _ _ _)
   | (with_reducible exact ih6 _ _ _ _)
   | (with_reducible exact LeO.refl _)
   | (with_reducible exact LeO.none _)
   | (with_reducible refine LeO.ite ?_ ?_)
   | (with_reducible refine LeO.bind ?_ (fun _ => ?_))
  ·intro y0 y1 y2 y3 y4 y5
   unfold qh.l1
   repeat' first
   | (with_reducible exact ih0 _ _)
   | (with_reducible exact ih1 _ _ _ _ _)
   | (with_reducible exact ih2 _ _ _ _ _ _)
   | (with_reducible exact ih3 _ _ _ _)
   | (with_reducible exact ih4 _ _ _ _)
   | (with_reducible exact ih5 _ _ _ _)
   | (with_reducible exact ih6 _ _ _ _)
   | (with_reducible exact LeO.refl _)
   | (with_reducible exact LeO.none _)
   | (with_reducible refine LeO.ite ?_ ?_)
   | (with_reducible refine LeO.bind ?_ (fun _ => ?_))
  ·intro y0 y1 y2 y3
   unfold qh.j6
   repeat' first
   | (with_reducible exact ih0 _ _)
   | (with_reducible exact ih1 _ _ _ _ _)
   | (with_reducible exact ih2 _ _ _ _ _ _)
   | (with_reducible exact ih3 _ _ _ _)
   | (with_reducible exact ih4 _ _ _ _)
   | (with_reducible exact ih5 _ _ _ _)
   | (with_reducible exact ih6 _ _ _ _)
   | (with_reducible exact LeO.refl _)
   | (with_reducible exact LeO.none _)
   | (with_reducible refine LeO.ite ?_ ?_)
   | (with_reducible refine LeO.bind ?_ (fun _ => ?_))
  ·intro y0 y1 y2 y3
   unfold qh.j1
   repeat' first
   | (with_reducible exact ih0 _ _)
   | (with_reducible exact ih1 _ _ _ _ _)
   | (with_reducible exact ih2 _ _ _ _ _ _)
   | (with_reducible exact ih3 _ _ _ _)
   | (with_reducible exact ih4 _ _ _ _)
   | (with_reducible exact ih5 _ _ _ _)
   | (with_reducible exact ih6 _ _ _ _)
   | (with_reducible exact LeO.refl _)
   | (with_reducible exact LeO.none _)
   | (with_reducible refine LeO.ite ?_ ?_)
   | (with_reducible refine LeO.bind ?_ (fun _ => ?_))
  ·intro y0 y1 y2 y3
   unfold qh.j2
   repeat' first
   | (with_reducible exact ih0 _ _)
   | (with_reducible exact ih1 _ _ _ _ _)
   | (with_reducible exact ih2 _ _ _ _ _ _)
   | (with_reducible exact ih3 _ _ _ _)
   | (with_reducible exact ih4 _ _ _ _)
   | (with_reducible exact ih5 _ _ _ _)
   | (with_reducible exact ih6 _ _ _ _)
   | (with_reducible exact LeO.refl _)
   | (with_reducible exact LeO.none _)
   | (with_reducible refine LeO.ite ?_ ?_)
   | (with_reducible refine LeO.bind ?_ (fun _ => ?_))
  ·intro y0 y1 y2 y3
   unfold qh.j3
   repeat' first
   | (with_reducible exact ih0 _ _)
   | (with_reducible exact ih1 _ _ _ _ _)
   | (with_reducible exact ih2 _ _ _ _ _ _)
   | (with_reducible exact ih3 _ _ _ _)
   | (with_reducible exact ih4 _ _ _ _)
   | (with_reducible exact ih5 _ _ _ _)
   | (with_reducible exact ih6 _ _ _ _)
   | (with_reducible exact LeO.refl _)
   | (with_reducible exact LeO.none _)
   | (with_reducible refine LeO.ite ?_ ?_)
   | (with_reducible refine LeO.bind ?_ (fun _ => ?_))
theorem qh.mono : ∀ a0 k, LeO (qh.f k a0) (qh.f (k + 1) a0) := by
 intro a0 k
 obtain ⟨ih0, ih1, ih2, ih3, ih4, ih5, ih6⟩ := qh.xi k
 unfold qh.f
 repeat' first
   | (with_reducible exact ih0 _ _)
   | (with_reducible exact ih1 _ _ _ _ _)
   | (with_reducible exact ih2 _ _ _ _ _ _)
   | (with_reducible exact ih3 _ _ _ _)
   | (with_reducible exact ih4 _ _ _ _)
   | (with_reducible exact ih5 _ _ _ _)
   | (with_reducible exact ih6 _ _ _ _)
   | (with_reducible exact LeO.refl _)
   | (with_reducible exact LeO.none _)
   | (with_reducible refine LeO.ite ?_ ?_)
   | (with_reducible refine LeO.bind ?_ (fun _ => ?_))
set_option maxHeartbeats 8000000 in
set_option maxRecDepth 100000 in
theorem qh.calls (k : Nat) (a0 : ByteArray) (r : Bool) (w : World) (h : qh.f k a0 = some r) :
  Calls Tryz.prog 109 #[.string a0] w fun e w' => e = .returned (.bool r) ∧ qx w w' := by
 have H : (qh.l0 k a0 0) = some r := h
 clear h
 have H' := qa.mk H
 clear H
 go_enter Tryz.func109, Tryz.ntmps109
 go_wp2
 go_loopg [3] k (fun kq v3 w' => ∃ (x3_1 : Int), v3 = .int .i64 x3_1 ∧ qa (qh.l0 kq a0 x3_1 = some r) ∧ qa (kq ≤ k) ∧ qx w w')
 case atStart => exact ⟨(0), yf, H', ⟨Nat.le_refl _⟩, by repeat (first | exact qx.refl _ | apply qx.step)⟩
 case round =>
  clear H'
  try clear c1
  obtain ⟨x3_1, rfl, HA, HK1, ⟨m1, rfl⟩⟩ := hrel
  cases gk with
  | zero => exact absurd HA.out (by simp [qh.l0])
  | succ k1 =>
   have H := HA.out
   clear HA
   simp only [qh.l0] at H
   by_cases c2 : x3_1 < (a0.size : Int)
   ·rw [if_pos c2] at H
    have c2b0 : decide (x3_1 < (a0.size : Int)) = true := decide_eq_true c2
    clear c2
    by_cases c3 : 0 ≤ x3_1
    ·rw [if_pos c3] at H
     have c3b0 : decide (0 ≤ x3_1) = true := decide_eq_true c3
     clear c3
     have HC5 := qa.mk H
     clear H
     have p4 : 0 ≤ (x3_1 : Int) := of_decide_eq_true cz
     have q4 : x3_1 < (a0.size : Int) := of_decide_eq_true cz
     have hx4 := km a0 x3_1
     replace p4 := eq_true p4
     replace q4 := eq_true q4
     go_upto_block 2 with (fail)
     go_cut [3, 5, 6] (fun v3 v5 v6 wc => ∃ (kq : Nat) (x3_4 : Int) (x5_4 : Int) (x6_4 : Int), v3 = .int .i64 x3_4 ∧ v5 = .int .i64 x5_4 ∧ v6 = .int .i64 x6_4 ∧ qa (qh.j4 kq a0 x3_4 (bt a0 x3_1) x5_4 x6_4 = some r) ∧ qa (kq ≤ k1) ∧ qx w wc)
     case first =>
      have H := HC5.out
      clear HC5
      have HC6 := qa.mk H
      clear H
      go_upto_region 6 with (fail)
      go_cut [16] (fun v16 wc => ∃ (kq : Nat) (x16_5 : Bool), v16 = .bool x16_5 ∧ qa (qh.j1 kq a0 x3_1 (bt a0 x3_1) x16_5 = some r) ∧ qa (kq ≤ k1) ∧ qx w wc)
      case first =>
       have H := HC6.out
       clear HC6
       by_cases c7 : (bt a0 x3_1) < 32
       ·rw [if_pos c7] at H
        have c7b0 : decide ((bt a0 x3_1) < 32) = true := decide_eq_true c7
        clear c7
        (first | rw [c7b0] | (simp only [zm, zq]; rw [c7b0]) | skip)
        have H' := qa.mk H
        clear H
        go_wp2
        go_meet
        case rel => exact ⟨_, (true), yf, H', ⟨by have := HK1.out; first | omega | exact Nat.le_refl _⟩, by repeat (first | exact qx.refl _ | apply qx.step)⟩
       ·rw [if_neg c7] at H
        have c7b0 : decide ((bt a0 x3_1) < 32) = false := decide_eq_false c7
        clear c7
        (first | rw [c7b0] | (simp only [zm, zq]; rw [c7b0]) | skip)
        have H' := qa.mk H
        clear H
        go_wp2
        go_meet
        case rel => exact ⟨_, (((bt a0 x3_1) == 127)), yf, H', ⟨by have := HK1.out; first | omega | exact Nat.le_refl _⟩, by repeat (first | exact qx.refl _ | apply qx.step)⟩
      case rest =>
       clear HC6
       (try clear c1); (try clear c2); (try clear c2b0); (try clear p2); (try clear c3); (try clear c3b0); (try clear p4); (try clear q4); (try clear hx4); (try clear c7); (try clear c7b0); try clear p4
       try clear q4
       obtain ⟨kq, x16_5, rfl, HA, HJ5, ⟨mc5, rfl⟩⟩ := hcut
       cases kq with
       | zero => exact absurd HA.out (by simp [qh.j1])
       | succ kj5 =>
        have H := HA.out
        clear HA
        simp only [qh.j1] at H
        by_cases c8 : x16_5 = true
        ·subst c8
         have H1 : (some false) = some r := by rw [if_pos rfl] at H; exact H
         clear H
         have H := H1
         clear H1
         obtain rfl := Option.some.inj H
         go_wp2
         go_ret
         exact ⟨by first | rfl | (simp; done) | (simp [*]; done), by repeat (first | exact qx.refl _ | apply qx.step)⟩
        ·replace c8 := Bool.eq_false_iff.mpr c8
         subst c8
         have H1 : (if (bt a0 x3_1) < 128 then (qh.l0 kj5 a0 (wrap64 (x3_1 + 1))) else (if (bt a0 x3_1) ≥ 192 then (qh.j2 kj5 a0 x3_1 (bt a0 x3_1) (decide ((bt a0 x3_1) < 224))) else (qh.j2 kj5 a0 x3_1 (bt a0 x3_1) false))) = some r := by rw [if_neg (show ¬ (false = true) by decide)] at H; exact H
         clear H
         have H := H1
         clear H1
         by_cases c9 : (bt a0 x3_1) < 128
         ·rw [if_pos c9] at H
          have c9b0 : decide ((bt a0 x3_1) < 128) = true := decide_eq_true c9
          clear c9
          have H' := qa.mk H
          clear H
          go_wp2
          go_roundg kj5
          case measure => have := HK1.out; have := HJ5.out; omega
          case rel => exact ⟨(wrap64 (x3_1 + 1)), yf, H', ⟨by have := HK1.out; have := HJ5.out; omega⟩, by repeat (first | exact qx.refl _ | apply qx.step)⟩
         ·rw [if_neg c9] at H
          have c9b0 : decide ((bt a0 x3_1) < 128) = false := decide_eq_false c9
          clear c9
          have HC10 := qa.mk H
          clear H
          go_upto_region 10 with (fail)
          go_cut [28] (fun v28 wc => ∃ (kq : Nat) (x28_9 : Bool), v28 = .bool x28_9 ∧ qa (qh.j2 kq a0 x3_1 (bt a0 x3_1) x28_9 = some r) ∧ qa (kq ≤ kj5) ∧ qx w wc)
          case first =>
           have H := HC10.out
           clear HC10
           by_cases c11 : (bt a0 x3_1) ≥ 192
           ·rw [if_pos c11] at H
            have c11b0 : decide (192 ≤ (bt a0 x3_1)) = true := decide_eq_true c11
            clear c11
            (first | rw [c11b0] | (simp only [zm, zq]; rw [c11b0]) | skip)
            have H' := qa.mk H
            clear H
            go_wp2
            go_meet
            case rel => exact ⟨_, (decide ((bt a0 x3_1) < 224)), yf, H', ⟨by have := HK1.out; have := HJ5.out; first | omega | exact Nat.le_refl _⟩, by repeat (first | exact qx.refl _ | apply qx.step)⟩
           ·rw [if_neg c11] at H
            have c11b0 : decide (192 ≤ (bt a0 x3_1)) = false := decide_eq_false c11
            clear c11
            (first | rw [c11b0] | (simp only [zm, zq]; rw [c11b0]) | skip)
            have H' := qa.mk H
            clear H
            go_wp2
            go_meet
            case rel => exact ⟨_, (false), yf, H', ⟨by have := HK1.out; have := HJ5.out; first | omega | exact Nat.le_refl _⟩, by repeat (first | exact qx.refl _ | apply qx.step)⟩
          case rest =>
           clear HC10
           (try clear c1); (try clear c2); (try clear c2b0); (try clear p2); (try clear c3); (try clear c3b0); (try clear p4); (try clear q4); (try clear hx4); (try clear c5); (try clear p6); try clear c7
           (try clear c7b0); (try clear c8); (try clear c9); (try clear c9b0); (try clear c10); (try clear c11); (try clear c11b0); (try clear p2); (try clear p4); try clear q4
           obtain ⟨kq, x28_9, rfl, HA, HJ9, ⟨mc9, rfl⟩⟩ := hcut
           cases kq with
           | zero => exact absurd HA.out (by simp [qh.j2])
           | succ kj9 =>
            have H := HA.out
            clear HA
            simp only [qh.j2] at H
            by_cases c12 : x28_9 = true
            ·subst c12
             have H1 : (qh.j4 kj9 a0 x3_1 (bt a0 x3_1) 1 128) = some r := by rw [if_pos rfl] at H; exact H
             clear H
             have H := H1
             clear H1
             have H' := qa.mk H
             clear H
             go_wp2
             go_meet
             case rel => exact ⟨_, (x3_1), (1), (128), yf, yf, yf, H', ⟨by have := HK1.out; have := HJ5.out; have := HJ9.out; first | omega | exact Nat.le_refl _⟩, by repeat (first | exact qx.refl _ | apply qx.step)⟩
            ·replace c12 := Bool.eq_false_iff.mpr c12
             subst c12
             have H1 : (if (bt a0 x3_1) ≥ 224 then (qh.j3 kj9 a0 x3_1 (bt a0 x3_1) (decide ((bt a0 x3_1) < 240))) else (qh.j3 kj9 a0 x3_1 (bt a0 x3_1) false)) = some r := by rw [if_neg (show ¬ (false = true) by decide)] at H; exact H
             clear H
             have H := H1
             clear H1
             have HC13 := qa.mk H
             clear H
             go_upto_region 12 with (fail)
             go_cut [35] (fun v35 wc => ∃ (kq : Nat) (x35_12 : Bool), v35 = .bool x35_12 ∧ qa (qh.j3 kq a0 x3_1 (bt a0 x3_1) x35_12 = some r) ∧ qa (kq ≤ kj9) ∧ qx w wc)
             case first =>
              have H := HC13.out
              clear HC13
              by_cases c14 : (bt a0 x3_1) ≥ 224
              ·rw [if_pos c14] at H
               have c14b0 : decide (224 ≤ (bt a0 x3_1)) = true := decide_eq_true c14
               clear c14
               (first | rw [c14b0] | (simp only [zm, zq]; rw [c14b0]) | skip)
               have H' := qa.mk H
               clear H
               go_wp2
               go_meet
               case rel => exact ⟨_, (decide ((bt a0 x3_1) < 240)), yf, H', ⟨by have := HK1.out; have := HJ5.out; have := HJ9.out; first | omega | exact Nat.le_refl _⟩, by repeat (first | exact qx.refl _ | apply qx.step)⟩
              ·rw [if_neg c14] at H
               have c14b0 : decide (224 ≤ (bt a0 x3_1)) = false := decide_eq_false c14
               clear c14
               (first | rw [c14b0] | (simp only [zm, zq]; rw [c14b0]) | skip)
               have H' := qa.mk H
               clear H
               go_wp2
               go_meet
               case rel => exact ⟨_, (false), yf, H', ⟨by have := HK1.out; have := HJ5.out; have := HJ9.out; first | omega | exact Nat.le_refl _⟩, by repeat (first | exact qx.refl _ | apply qx.step)⟩
             case rest =>
              clear HC13
              (try clear c1); (try clear c2); (try clear c2b0); (try clear p2); (try clear c3); (try clear c3b0); (try clear p4); (try clear q4); (try clear hx4); (try clear c5); try clear p6
              (try clear c7); (try clear c7b0); (try clear c8); (try clear c9); (try clear c9b0); (try clear c10); (try clear c11); (try clear c11b0); (try clear c12); (try clear c14); try clear c14b0
              (try clear p2); (try clear p4); (try clear p6); try clear q4
              obtain ⟨kq, x35_12, rfl, HA, HJ12, ⟨mc12, rfl⟩⟩ := hcut
              cases kq with
              | zero => exact absurd HA.out (by simp [qh.j3])
              | succ kj12 =>
               have H := HA.out
               clear HA
               simp only [qh.j3] at H
               by_cases c15 : x35_12 = true
               ·subst c15
                have H1 : (qh.j4 kj12 a0 x3_1 (bt a0 x3_1) 2 2048) = some r := by rw [if_pos rfl] at H; exact H
                clear H
                have H := H1
                clear H1
                have H' := qa.mk H
                clear H
                go_wp2
                go_meet
                case rel => exact ⟨_, (x3_1), (2), (2048), yf, yf, yf, H', ⟨by have := HK1.out; have := HJ5.out; have := HJ9.out; have := HJ12.out; first | omega | exact Nat.le_refl _⟩, by repeat (first | exact qx.refl _ | apply qx.step)⟩
               ·replace c15 := Bool.eq_false_iff.mpr c15
                subst c15
                have H1 : (if (bt a0 x3_1) ≥ 240 then (if (bt a0 x3_1) < 248 then (qh.j4 kj12 a0 x3_1 (bt a0 x3_1) 3 65536) else (some false)) else (some false)) = some r := by rw [if_neg (show ¬ (false = true) by decide)] at H; exact H
                clear H
                have H := H1
                clear H1
                by_cases c16 : (bt a0 x3_1) ≥ 240
                ·rw [if_pos c16] at H
                 have c16b0 : decide (240 ≤ (bt a0 x3_1)) = true := decide_eq_true c16
                 clear c16
                 by_cases c17 : (bt a0 x3_1) < 248
                 ·rw [if_pos c17] at H
                  have c17b0 : decide ((bt a0 x3_1) < 248) = true := decide_eq_true c17
                  clear c17
                  have H' := qa.mk H
                  clear H
                  go_wp2
                  go_meet
                  case rel => exact ⟨_, (x3_1), (3), (65536), yf, yf, yf, H', ⟨by have := HK1.out; have := HJ5.out; have := HJ9.out; have := HJ12.out; first | omega | exact Nat.le_refl _⟩, by repeat (first | exact qx.refl _ | apply qx.step)⟩
                 ·rw [if_neg c17] at H
                  have c17b0 : decide ((bt a0 x3_1) < 248) = false := decide_eq_false c17
                  clear c17
                  obtain rfl := Option.some.inj H
                  go_wp2
                  go_ret
                  exact ⟨by first | rfl | (simp; done) | (simp [*]; done), by repeat (first | exact qx.refl _ | apply qx.step)⟩
                ·rw [if_neg c16] at H
                 have c16b0 : decide (240 ≤ (bt a0 x3_1)) = false := decide_eq_false c16
                 clear c16
                 obtain rfl := Option.some.inj H
                 go_wp2
                 go_ret
                 exact ⟨by first | rfl | (simp; done) | (simp [*]; done), by repeat (first | exact qx.refl _ | apply qx.step)⟩
     case rest =>
      clear HC5
      (try clear c1); (try clear c2); (try clear c2b0); (try clear p2); (try clear c3); (try clear c3b0); (try clear p4); (try clear q4); (try clear hx4); (try clear c5); (try clear p6); try clear c7
      (try clear c7b0); (try clear c8); (try clear c9); (try clear c9b0); (try clear c10); (try clear c11); (try clear c11b0); (try clear c12); (try clear c14); (try clear c14b0); (try clear c15); try clear c16
      (try clear c16b0); (try clear c17); (try clear c17b0); (try clear p2); (try clear p4); (try clear p6); try clear q4
      obtain ⟨kq, x3_4, x5_4, x6_4, rfl, rfl, rfl, HA, HJ4, ⟨mc4, rfl⟩⟩ := hcut
      cases kq with
      | zero => exact absurd HA.out (by simp [qh.j4])
      | succ kj4 =>
       have H := HA.out
       clear HA
       simp only [qh.j4] at H
       by_cases c18 : (wrap64 ((a0.size : Int) - x3_4)) ≤ x5_4
       ·rw [if_pos c18] at H
        have c18b0 : decide ((wrap64 ((a0.size : Int) - x3_4)) ≤ x5_4) = true := decide_eq_true c18
        clear c18
        obtain rfl := Option.some.inj H
        go_wp2
        go_ret
        exact ⟨by first | rfl | (simp; done) | (simp [*]; done), by repeat (first | exact qx.refl _ | apply qx.step)⟩
       ·rw [if_neg c18] at H
        have c18b0 : decide ((wrap64 ((a0.size : Int) - x3_4)) ≤ x5_4) = false := decide_eq_false c18
        clear c18
        obtain ⟨ji19, hji19⟩ : ∃ j_ : Int, (wrap64 (6 - x5_4)) = j_ := ⟨_, rfl⟩
        replace H : (if 0 ≤ (ji19) then (qh.l1 kj4 a0 x3_4 x5_4 x6_4 (Go.bits .and .i64 (wrap64 ((bt a0 x3_1))) (wrap64 ((shl .i64 1 (ji19)) - 1))) 1) else (none)) = some r := by first | (rw [hji19] at H; exact H) | (simp only [hji19] at H ⊢; exact H)
        have hji19w : (IntKind.i64.wrap (6 - x5_4)) = ji19 := (zm _).trans hji19
        by_cases c20 : 0 ≤ (ji19)
        ·rw [if_pos c20] at H
         have c20b0 := eq_true c20
         have c20b1 : decide (0 ≤ (ji19)) = true := decide_eq_true c20
         clear c20
         obtain ⟨ji21, hji21⟩ : ∃ j_ : Int, (shl .i64 1 (ji19)) = j_ := ⟨_, rfl⟩
         replace H : (qh.l1 kj4 a0 x3_4 x5_4 x6_4 (Go.bits .and .i64 (wrap64 ((bt a0 x3_1))) (wrap64 ((ji21) - 1))) 1) = some r := by first | (rw [hji21] at H; exact H) | (simp only [hji21] at H ⊢; exact H)
         have hji21_ : (IntKind.i64.wrap (1 * 2 ^ min (ji19).toNat 64)) = ji21 := hji21
         have hji21z : (ji19) ≤ 64 → (IntKind.i64.wrap (1 * 2 ^ (ji19).toNat)) = ji21 := shl_small hji21
         have hji21u : (IntKind.i64.wrap (2 ^ min (ji19).toNat 64)) = ji21 := by have h_ := hji21_; rw [Int.one_mul] at h_; exact h_
         have hji21v : (ji19) ≤ 64 → (IntKind.i64.wrap (2 ^ (ji19).toNat)) = ji21 := fun hle_ => by have h_ := hji21z hle_; rw [Int.one_mul] at h_; exact h_
         have hji21y : (wrap64 (1 * 2 ^ min (ji19).toNat 64)) = ji21 := (zm _).symm.trans hji21_
         have hji21x : (ji19) ≤ 64 → (wrap64 (1 * 2 ^ (ji19).toNat)) = ji21 := fun h_ => (zm _).symm.trans (hji21z h_)
         have H' := qa.mk H
         clear H
         go_wp2
         go_loopg [7, 8] kj4 (fun kq v7 v8 w' => ∃ (x7_3 : Int) (x8_3 : Int), v7 = .int .i64 x7_3 ∧ v8 = .int .i64 x8_3 ∧ qa (qh.l1 kq a0 x3_4 x5_4 x6_4 x7_3 x8_3 = some r) ∧ qa (kq ≤ kj4) ∧ qx w w')
         case atStart => exact ⟨(Go.bits .and .i64 (wrap64 ((bt a0 x3_1))) (wrap64 ((ji21) - 1))), (1), (by first | rfl | (simp; done) | (simp only [← hji21] <;> (first | rfl | simp)) | (simp [*]; done)), yf, H', ⟨Nat.le_refl _⟩, by repeat (first | exact qx.refl _ | apply qx.step)⟩
         case round =>
          clear H'
          (try clear c1); (try clear c2); (try clear c2b0); (try clear p2); (try clear c3); (try clear c3b0); (try clear c4); (try clear p4); (try clear q4); (try clear hx4); (try clear c5); try clear p6
          (try clear c7); (try clear c7b0); (try clear c8); (try clear c9); (try clear c9b0); (try clear c10); (try clear c11); (try clear c11b0); (try clear c12); (try clear c14); try clear c14b0
          (try clear c15); (try clear c16); (try clear c16b0); (try clear c17); (try clear c17b0); (try clear c18); (try clear c18b0); (try clear c20); (try clear c20b0); (try clear c20b1); try clear p2
          (try clear p4); (try clear p6); try clear q4
          obtain ⟨x7_3, x8_3, rfl, rfl, HA, HK3, ⟨m3, rfl⟩⟩ := hrel
          cases gk with
          | zero => exact absurd HA.out (by simp [qh.l1])
          | succ k3 =>
           have H := HA.out
           clear HA
           simp only [qh.l1] at H
           by_cases c22 : x8_3 ≤ x5_4
           ·rw [if_pos c22] at H
            have c22b0 : decide (x8_3 ≤ x5_4) = true := decide_eq_true c22
            clear c22
            obtain ⟨ji23, hji23⟩ : ∃ j_ : Int, (wrap64 (x3_4 + x8_3)) = j_ := ⟨_, rfl⟩
            replace H : (if 0 ≤ (ji23) then (if (ji23) < (a0.size : Int) then (if ((Int.tdiv (bt a0 (ji23)) 64) % 256) = 2 then (qh.l1 k3 a0 x3_4 x5_4 x6_4 (wrap64 ((wrap64 (64 * x7_3)) + (wrap64 (Int.tmod (bt a0 (ji23)) 64)))) (wrap64 (x8_3 + 1))) else (some false)) else (none)) else (none)) = some r := by first | (rw [hji23] at H; exact H) | (simp only [hji23] at H ⊢; exact H)
            have hji23w : (IntKind.i64.wrap (x3_4 + x8_3)) = ji23 := (zm _).trans hji23
            by_cases c24 : 0 ≤ (ji23)
            ·rw [if_pos c24] at H
             have c24b0 : decide (0 ≤ (ji23)) = true := decide_eq_true c24
             clear c24
             by_cases c25 : (ji23) < (a0.size : Int)
             ·rw [if_pos c25] at H
              have c25b0 : decide ((ji23) < (a0.size : Int)) = true := decide_eq_true c25
              clear c25
              by_cases c27 : ((Int.tdiv (bt a0 (ji23)) 64) % 256) = 2
              ·rw [if_pos c27] at H
               have c27b0 : (((Int.tdiv (bt a0 (ji23)) 64) % 256) == 2) = true := beq_iff_eq.mpr c27
               have c27b1 : (((Int.tdiv (bt a0 (ji23)) 64) % 256) != 2) = false := bne_eq_false_iff_eq.mpr c27
               clear c27
               have H' := qa.mk H
               clear H
               have p26 : 0 ≤ ((ji23) : Int) := of_decide_eq_true cz
               have q26 : (ji23) < (a0.size : Int) := of_decide_eq_true cz
               have hx26 := km a0 (ji23)
               replace p26 := eq_true p26
               replace q26 := eq_true q26
               have p28 : 0 ≤ ((ji23) : Int) := of_decide_eq_true cz
               have q28 : (ji23) < (a0.size : Int) := of_decide_eq_true cz
               have hx28 := km a0 (ji23)
               replace p28 := eq_true p28
               replace q28 := eq_true q28
               go_wp2
               go_roundg k3
               case measure => have := HK1.out; have := HJ4.out; have := HK3.out; omega
               case rel => exact ⟨(wrap64 ((wrap64 (64 * x7_3)) + (wrap64 (Int.tmod (bt a0 (ji23)) 64)))), (wrap64 (x8_3 + 1)), (by first | rfl | (simp; done) | (simp only [← hji23] <;> (first | rfl | simp)) | (simp [*]; done)), yf, H', ⟨by have := HK1.out; have := HJ4.out; have := HK3.out; omega⟩, by repeat (first | exact qx.refl _ | apply qx.step)⟩
              ·rw [if_neg c27] at H
               have c27b0 : (((Int.tdiv (bt a0 (ji23)) 64) % 256) == 2) = false := beq_eq_false_iff_ne.mpr c27
               have c27b1 : (((Int.tdiv (bt a0 (ji23)) 64) % 256) != 2) = true := bne_iff_ne.mpr c27
               obtain rfl := Option.some.inj H
               have p26 : 0 ≤ ((ji23) : Int) := of_decide_eq_true cz
               have q26 : (ji23) < (a0.size : Int) := of_decide_eq_true cz
               have hx26 := km a0 (ji23)
               replace p26 := eq_true p26
               replace q26 := eq_true q26
               go_wp2
               go_ret
               exact ⟨by first | rfl | (simp; done) | (simp only [← hji19, ← hji21, ← hji23] <;> (first | rfl | simp)) | (simp [*]; done), by repeat (first | exact qx.refl _ | apply qx.step)⟩
             ·rw [if_neg c25] at H
              exact absurd H yt
            ·rw [if_neg c24] at H
             exact absurd H yt
           ·rw [if_neg c22] at H
            have c22b0 : decide (x8_3 ≤ x5_4) = false := decide_eq_false c22
            clear c22
            have HC29 := qa.mk H
            clear H
            go_upto_region 25 with (fail)
            go_cut [98] (fun v98 wc => ∃ (kq : Nat) (x98_28 : Bool), v98 = .bool x98_28 ∧ qa (qh.j6 kq a0 x3_4 x5_4 x98_28 = some r) ∧ qa (kq ≤ k3) ∧ qx w wc)
            case first =>
             have H := HC29.out
             clear HC29
             by_cases c30 : x7_3 < x6_4
             ·rw [if_pos c30] at H
              have c30b0 : decide (x7_3 < x6_4) = true := decide_eq_true c30
              clear c30
              (first | rw [c30b0] | (simp only [zm, zq]; rw [c30b0]) | skip)
              have H' := qa.mk H
              clear H
              go_wp2
              go_meet
              case rel => exact ⟨_, (true), yf, H', ⟨by have := HK1.out; have := HJ4.out; have := HK3.out; first | omega | exact Nat.le_refl _⟩, by repeat (first | exact qx.refl _ | apply qx.step)⟩
             ·rw [if_neg c30] at H
              have c30b0 : decide (x7_3 < x6_4) = false := decide_eq_false c30
              clear c30
              (first | rw [c30b0] | (simp only [zm, zq]; rw [c30b0]) | skip)
              by_cases c31 : x7_3 > 1114111
              ·rw [if_pos c31] at H
               have c31b0 : decide (1114111 < x7_3) = true := decide_eq_true c31
               clear c31
               have H' := qa.mk H
               clear H
               go_wp2
               go_meet
               case rel => exact ⟨_, (true), yf, H', ⟨by have := HK1.out; have := HJ4.out; have := HK3.out; first | omega | exact Nat.le_refl _⟩, by repeat (first | exact qx.refl _ | apply qx.step)⟩
              ·rw [if_neg c31] at H
               have c31b0 : decide (1114111 < x7_3) = false := decide_eq_false c31
               clear c31
               by_cases c32 : x7_3 ≥ 55296
               ·rw [if_pos c32] at H
                have c32b0 : decide (55296 ≤ x7_3) = true := decide_eq_true c32
                clear c32
                have H' := qa.mk H
                clear H
                go_wp2
                go_meet
                case rel => exact ⟨_, (decide (x7_3 < 57344)), yf, H', ⟨by have := HK1.out; have := HJ4.out; have := HK3.out; first | omega | exact Nat.le_refl _⟩, by repeat (first | exact qx.refl _ | apply qx.step)⟩
               ·rw [if_neg c32] at H
                have c32b0 : decide (55296 ≤ x7_3) = false := decide_eq_false c32
                clear c32
                have H' := qa.mk H
                clear H
                go_wp2
                go_meet
                case rel => exact ⟨_, (false), yf, H', ⟨by have := HK1.out; have := HJ4.out; have := HK3.out; first | omega | exact Nat.le_refl _⟩, by repeat (first | exact qx.refl _ | apply qx.step)⟩
            case rest =>
             clear HC29
             (try clear c1); (try clear c2); (try clear c2b0); (try clear p2); (try clear q2); (try clear hx2); (try clear c3); (try clear c3b0); (try clear c4); (try clear p4); try clear q4
             (try clear hx4); (try clear c5); (try clear p6); (try clear c7); (try clear c7b0); (try clear c8); (try clear c9); (try clear c9b0); (try clear c10); (try clear c11); try clear c11b0
             (try clear c12); (try clear c14); (try clear c14b0); (try clear c15); (try clear c16); (try clear c16b0); (try clear c17); (try clear c17b0); (try clear c18); try clear c18b0
             (try clear c20); (try clear c20b0); (try clear c20b1); (try clear c22); (try clear c22b0); (try clear c24); (try clear c24b0); (try clear c25); (try clear c25b0); try clear p26
             (try clear q26); (try clear hx26); (try clear c27); (try clear c27b0); (try clear c27b1); (try clear p28); (try clear q28); (try clear hx28); (try clear c30); try clear c30b0
             (try clear c31); (try clear c31b0); (try clear c32); (try clear c32b0); (try clear p2); (try clear p26); (try clear p28); (try clear p4); (try clear p6); (try clear q26); try clear q28
             try clear q4
             obtain ⟨kq, x98_28, rfl, HA, HJ28, ⟨mc28, rfl⟩⟩ := hcut
             cases kq with
             | zero => exact absurd HA.out (by simp [qh.j6])
             | succ kj28 =>
              have H := HA.out
              clear HA
              simp only [qh.j6] at H
              by_cases c33 : x98_28 = true
              ·subst c33
               have H1 : (some false) = some r := by rw [if_pos rfl] at H; exact H
               clear H
               have H := H1
               clear H1
               obtain rfl := Option.some.inj H
               go_wp2
               go_ret
               exact ⟨by first | rfl | (simp; done) | (simp only [← hji19, ← hji21] <;> (first | rfl | simp)) | (simp [*]; done), by repeat (first | exact qx.refl _ | apply qx.step)⟩
              ·replace c33 := Bool.eq_false_iff.mpr c33
               subst c33
               have H1 : (qh.l0 kj28 a0 (wrap64 (x3_4 + (wrap64 (x5_4 + 1))))) = some r := by rw [if_neg (show ¬ (false = true) by decide)] at H; exact H
               clear H
               have H := H1
               clear H1
               have H' := qa.mk H
               clear H
               go_wp2
               go_roundg kj28
               case measure => have := HK1.out; have := HJ4.out; have := HK3.out; have := HJ28.out; omega
               case rel => exact ⟨(wrap64 (x3_4 + (wrap64 (x5_4 + 1)))), yf, H', ⟨by have := HK1.out; have := HJ4.out; have := HK3.out; have := HJ28.out; omega⟩, by repeat (first | exact qx.refl _ | apply qx.step)⟩
        ·rw [if_neg c20] at H
         exact absurd H yt
    ·rw [if_neg c3] at H
     exact absurd H yt
   ·rw [if_neg c2] at H
    have c2b0 : decide (x3_1 < (a0.size : Int)) = false := decide_eq_false c2
    clear c2
    obtain rfl := Option.some.inj H
    go_wp2
    go_ret
    exact ⟨by first | rfl | (simp; done) | (simp [*]; done), by repeat (first | exact qx.refl _ | apply qx.step)⟩
end Go.Proofs.YthdoohfdminfgaaGreatDoor.C
end
