/- Words, walks and plain laws that the claim rests on, gathered. -/
import Derived.Test.YthdoohfdminfgaaGreatDoorProg
import Derived.WalkSpells
import Derived.Below
import Derived.Deep.Draws
import Derived.Deep.AppendLies
import Derived.Maps.AppendAt
import Derived.OwnWalk
import Derived.Laws.BytesArg
import Derived.Laws.MakeOwn
import Derived.Laws.OwnMore
import Derived.Deep.OwnRows
import Derived.Tactics
import Derived.Lib.ConvBytes
import Derived.Laws.Slices
import Derived.WalkKit
import Derived.KernelRfl
import Derived.RowKit3
import Derived.Deep.LoopGhost
import Derived.Deep.QuietTactic
import Derived.BigQuiet
import Derived.WideLaws
import Derived.Deep.DeepCutAuto
import Derived.Deep.CutBlock
import Derived.Deep.RegionHeld3
import Derived.Laws.Rows
import Derived.Lib.AppendStr
import Derived.ArgAppend
import Derived.Laws.IdiomCopy
import Derived.OrdersHeld
import Derived.Laws.BitsLemmas
import Derived.RowKit
import Derived.WalkLawsBesides
import Derived.Shelf.Strings.Builder1
import Derived.Shelf.Strings.Builder2
import Derived.Shelf.Strings.OnBuilder
import Derived.Shelf.Small.Bits
import Derived.Shelf.Small.Strs
import Derived.Shelf.Strings.BuilderF
import Derived.Shelf.Strings.BuilderK
import Derived.Shelf.Utf8.RuneCount
import Derived.Shelf.Strings.Builder2Cap
import Derived.Shelf.Strconv.Itoa0
import Derived.Shelf.Strconv.Itoa1
import Derived.Shelf.LaysM
import Derived.Shelf.Strconv.Itoa2
import Derived.Shelf.Strconv.Itoa3
import Derived.Shelf.Strings.Search1
import Derived.Shelf.Strings.Search2
import Derived.Shelf.Strings.Search3
import Derived.Shelf.Strings.Cut
import Derived.Shelf.Strings.Count
import Derived.Shelf.Strings.Shaped
import Derived.Shelf.Sort.Plain
import Derived.Ground.GgsProg
import Derived.Shelf.GgSortFunc.Insertion
import Derived.Shelf.GgSortFunc.Small
import Derived.Shelf.GgSortFunc.InsertionK
import Derived.Shelf.GgSortFunc.SmallK
import Derived.Shelf.GgSortFunc.Tiny
import Derived.Shelf.GgSortFunc.Compose
import Derived.Shelf.GgSortFunc.LotD
import Derived.Shelf.GgSortFunc.Pivot
import Derived.Shelf.GgSortFunc.Partition
import Derived.Shelf.GgSortFunc.Pdq
import Derived.Shelf.GgSortFunc.Whole
import Derived.Shelf.Strings.Prefix
import Derived.Shelf.Strings.Split
import Derived.Shelf.Strings.SplitShaped
import Derived.Shelf.Unicode.Decode
import Derived.Shelf.Strings.RuneCount
import Derived.Shelf.Strings.Explode
import Derived.Shelf.Unicode.DecodeSlow
import Derived.Shelf.Unicode.DecodeAny
import Derived.Shelf.Strings.BuilderCap
import Derived.Shelf.Slices.In.SortNone
import Derived.Shelf.Slices.In.SortNone2
import Derived.Shelf.SlSortFunc.Xorshift
import Derived.Shelf.SlSortFuncK.ComposeK
import Derived.Shelf.SlSortFuncK.SiftDownK
import Derived.Shelf.SlSortFuncK.HeapSortK
import Derived.Shelf.SlSortFuncK.PartialInsertionK
import Derived.Shelf.SlSortFuncK.LotDK
import Derived.Shelf.SlSortFuncK.PivotK
import Derived.Shelf.SlSortFuncK.PartitionK
import Derived.Shelf.SlSortFunc.SiftDown
import Derived.Shelf.SlSortFunc.HeapSort
import Derived.Shelf.SlSortFunc.PartialInsertion
import Derived.Shelf.SlSortFuncK.PdqK
import Derived.Shelf.SlSortFuncK.WholeK
import Derived.Laws.StructEq
import Derived.Test.YthdoohfdminfgaaGreatDoorNK0
import Derived.Test.YthdoohfdminfgaaGreatDoorNK1
import Derived.Test.YthdoohfdminfgaaGreatDoorNK2
import Derived.Test.YthdoohfdminfgaaGreatDoorNK3
import Derived.Test.YthdoohfdminfgaaGreatDoorNK4
import Derived.Test.YthdoohfdminfgaaGreatDoorNKc
namespace Go.Proofs.YthdoohfdminfgaaGreatDoorW.PrintLast
end Go.Proofs.YthdoohfdminfgaaGreatDoorW.PrintLast
namespace Go.Proofs.YthdoohfdminfgaaGreatDoorW.PrintMore
end Go.Proofs.YthdoohfdminfgaaGreatDoorW.PrintMore
namespace Go.Proofs.YthdoohfdminfgaaGreatDoorW.PrintWords
end Go.Proofs.YthdoohfdminfgaaGreatDoorW.PrintWords
section
namespace Go.Proofs.YthdoohfdminfgaaGreatDoor.C
open Go.RowKit Go.Proofs.YthdoohfdminfgaaGreatDoorW.PrintWords Go.Proofs.YthdoohfdminfgaaGreatDoorW.PrintLast Go.Proofs.YthdoohfdminfgaaGreatDoorW.PrintMore
attribute [local go_sem] xa z7 xq xr zx zy xc z8
set_option linter.unusedVariables false
set_option linter.unusedSimpArgs false
mutual
def qq.j1 : Nat → ByteArray → ByteArray → Option (ByteArray × Int × ByteArray × Bool)
 | 0, _, _ => none
 | k + 1, x4, x5 => (qz.f k x5).bind fun bt152 => (if bt152.2 = true then ((xn.f k x4).bind fun t154 => (qq.j2 k x4 bt152.1 (!t154))) else (qq.j2 k x4 bt152.1 true))
def qq.j2 : Nat → ByteArray → ByteArray → Bool → Option (ByteArray × Int × ByteArray × Bool)
 | 0, _, _, _ => none
 | k + 1, x4, x9, x44 => if x44 = true then (some ((⟨#[]⟩ : ByteArray), 0, (⟨#[]⟩ : ByteArray), false)) else (if x4.toList = ([48, 46, 57, 46, 50, 51, 52, 50, 46, 49, 57, 50, 48, 48, 51, 48, 48, 46, 49, 48, 48, 46, 49, 46, 50, 53] : List UInt8) then (qq.j3 k x4 x9 12 true) else (qq.j3 k x4 x9 12 (x4.toList == ([49, 46, 50, 46, 56, 52, 48, 46, 49, 49, 51, 53, 52, 57, 46, 49, 46, 57, 46, 49] : List UInt8))))
def qq.j3 : Nat → ByteArray → ByteArray → Int → Bool → Option (ByteArray × Int × ByteArray × Bool)
 | 0, _, _, _, _ => none
 | k + 1, x4, x9, x10, x46 => if x46 = true then (some (x4, 22, x9, true)) else ((jc.f 19 x9).bind fun t155 => (if t155 = true then (some (x4, 19, x9, true)) else (some (x4, x10, x9, true))))
def qq.l0 : Nat → ByteArray → ByteArray → List (S83) → Int → Int → Option (ByteArray × Int × ByteArray × Bool)
 | 0, _, _, _, _, _ => none
 | k + 1, x4, x5, x20, x21, x22 => if x22 < x21 then (if 0 ≤ x22 then (if x22 < (x20.length : Int) then (if ((rd_T83 x20 x22).f0).toList = x4.toList then (qq.j1 k ((rd_T83 x20 x22).f1) x5) else (qq.l0 k x4 x5 x20 x21 (wrap64 (x22 + 1)))) else (none)) else (none)) else (qq.j1 k x4 x5)
end
def qq.f (k : Nat) (a0 : ByteArray) : Option (ByteArray × Int × ByteArray × Bool) := (strings_Cut.f a0 (⟨#[61]⟩ : ByteArray)).bind fun bt144 => (if bt144.2.2 = true then ((dname_shorts.f).bind fun t147 => (qq.l0 k bt144.1 bt144.2.1 t147 (t147.length : Int) 0)) else (some ((⟨#[]⟩ : ByteArray), 0, (⟨#[]⟩ : ByteArray), false)))
theorem qq.xi : ∀ k, (∀ y0 y1, LeO (qq.j1 k y0 y1) (qq.j1 (k + 1) y0 y1)) ∧ (∀ y0 y1 y2, LeO (qq.j2 k y0 y1 y2) (qq.j2 (k + 1) y0 y1 y2)) ∧ (∀ y0 y1 y2 y3, LeO (qq.j3 k y0 y1 y2 y3) (qq.j3 (k + 1) y0 y1 y2 y3)) ∧ (∀ y0 y1 y2 y3 y4, LeO (qq.l0 k y0 y1 y2 y3 y4) (qq.l0 (k + 1) y0 y1 y2 y3 y4))
 | 0 => ⟨fun _ _ r h => by simp [qq.j1] at h, fun _ _ _ r h => by simp [qq.j2] at h, fun _ _ _ _ r h => by simp [qq.j3] at h, fun _ _ _ _ _ r h => by simp [qq.l0] at h⟩
 | k + 1 => by
  obtain ⟨ih0, ih1, ih2, ih3⟩ := qq.xi k
  refine ⟨?_, ?_, ?_, ?_⟩
  ·intro y0 y1
   unfold qq.j1
   repeat' first
   | (with_reducible exact ih0 _ _)
   | (with_reducible exact ih1 _ _ _)
   | (with_reducible exact ih2 _ _ _ _)
   | (with_reducible exact ih3 _ _ _ _ _)
   | (with_reducible exact xn.mono _ _)
   | (with_reducible exact qz.mono _ _)
   | (with_reducible exact LeO.refl _)
   | (with_reducible exact LeO.none _)
   | (with_reducible refine LeO.ite ?_ ?_)
   | (with_reducible refine LeO.bind ?_ (fun _ => ?_))
  ·intro y0 y1 y2
   unfold qq.j2
   repeat' first
   | (with_reducible exact ih0 _ _)
   | (with_reducible exact ih1 _ _ _)
   | (with_reducible exact ih2 _ _ _ _)
   | (with_reducible exact ih3 _ _ _ _ _)
   | (with_reducible exact xn.mono _ _)
   | (with_reducible exact qz.mono _ _)
   | (with_reducible exact LeO.refl _)
   | (with_reducible exact LeO.none _)
   | (with_reducible refine LeO.ite ?_ ?_)
   | (with_reducible refine LeO.bind ?_ (fun _ => ?_))
  ·intro y0 y1 y2 y3
   unfold qq.j3
   repeat' first
   | (with_reducible exact ih0 _ _)
   | (with_reducible exact ih1 _ _ _)
   | (with_reducible exact ih2 _ _ _ _)
   | (with_reducible exact ih3 _ _ _ _ _)
   | (with_reducible exact xn.mono _ _)
   | (with_reducible exact qz.mono _ _)
   | (with_reducible exact LeO.refl _)
   | (with_reducible exact LeO.none _)
   | (with_reducible refine LeO.ite ?_ ?_)
   | (with_reducible refine LeO.bind ?_ (fun _ => ?_))
  ·intro y0 y1 y2 y3 y4
   unfold qq.l0
   repeat' first
   | (with_reducible exact ih0 _ _)
   | (with_reducible exact ih1 _ _ _)
   | (with_reducible exact ih2 _ _ _ _)
   | (with_reducible exact ih3 _ _ _ _ _)
   | (with_reducible exact xn.mono _ _)
   | (with_reducible exact qz.mono _ _)
   | (with_reducible exact LeO.refl _)
   | (with_reducible exact LeO.none _)
   | (with_reducible refine LeO.ite ?_ ?_)
   | (with_reducible refine LeO.bind ?_ (fun _ => ?_))
theorem qq.mono : ∀ a0 k, LeO (qq.f k a0) (qq.f (k + 1) a0) := by
 intro a0 k
 obtain ⟨ih0, ih1, ih2, ih3⟩ := qq.xi k
 unfold qq.f
 repeat' first
   | (with_reducible exact ih0 _ _)
   | (with_reducible exact ih1 _ _ _)
   | (with_reducible exact ih2 _ _ _ _)
   | (with_reducible exact ih3 _ _ _ _ _)
   | (with_reducible exact xn.mono _ _)
   | (with_reducible exact qz.mono _ _)
   | (with_reducible exact LeO.refl _)
   | (with_reducible exact LeO.none _)
   | (with_reducible refine LeO.ite ?_ ?_)
   | (with_reducible refine LeO.bind ?_ (fun _ => ?_))
set_option maxHeartbeats 8000000 in
set_option maxRecDepth 100000 in
theorem qq.calls (k : Nat) (a0 : ByteArray) (r1 : ByteArray) (r2 : Int) (r3 : ByteArray) (r4 : Bool) (w : World) (hG : LibHeld w) (h : qq.f k a0 = some (r1, r2, r3, r4)) :
  Calls Tryz.prog 57 #[.string a0] w fun e w' => e = .returned (.tuple #[.agg #[.string r1, .int .i64 r2, .string r3], .bool r4]) ∧ Below w.heap.size w w' := by
 have hu40 := Tryz.underlying40
 have hu83 := Tryz.underlying83
 have HG := qa.mk hG
 clear hG
 have HB := qa.mk (Below.refl w.heap.size w)
 have H : ((strings_Cut.f a0 (⟨#[61]⟩ : ByteArray)).bind fun bt144 => (if bt144.2.2 = true then ((dname_shorts.f).bind fun t147 => (qq.l0 k bt144.1 bt144.2.1 t147 (t147.length : Int) 0)) else (some ((⟨#[]⟩ : ByteArray), 0, (⟨#[]⟩ : ByteArray), false)))) = some (r1, r2, r3, r4) := h
 clear h
 replace H := Option.bind_eq_some_iff.mp H
 obtain ⟨⟨t144, t145, t146⟩, A20, H⟩ := H
 replace H : (if t146 = true then ((dname_shorts.f).bind fun t147 => (qq.l0 k t144 t145 t147 (t147.length : Int) 0)) else (some ((⟨#[]⟩ : ByteArray), 0, (⟨#[]⟩ : ByteArray), false))) = some (r1, r2, r3, r4) := H
 have A2 := qa.mk A20
 clear A20
 by_cases c3 : t146 = true
 ·subst c3
  have H1 : ((dname_shorts.f).bind fun t147 => (qq.l0 k t144 t145 t147 (t147.length : Int) 0)) = some (r1, r2, r3, r4) := by rw [if_pos rfl] at H; exact H
  clear H
  have H := H1
  clear H1
  replace H := Option.bind_eq_some_iff.mp H
  obtain ⟨t147, A40, H⟩ := H
  replace H : (qq.l0 k t144 t145 t147 (t147.length : Int) 0) = some (r1, r2, r3, r4) := H
  have A4 := qa.mk A40
  clear A40
  have HC5 := qa.mk H
  clear H
  go_enter Tryz.func57, Tryz.ntmps57
  go_upto_block 0 with (first | ((with_reducible refine zl (N := 2) rfl ?_); refine zo ?hg (N := 2) ?hd (cs := #[.string (⟨#[]⟩ : ByteArray), .int .i64 0, .string (⟨#[]⟩ : ByteArray)]) (t := 40) ?hr ?_; (case hd => rfl); (case hg => rfl); (case hr => first | (go_simp; done) | (go_simp; rfl)); intro gb143 hg w6 hbox hb; have n0_ := qa.mk (qp cu hb); have n1_ := qa.mk (hbox); have n2_ := qa.mk ((by rw [hg]; exact (qr cu) : w.heap.size ≤ gb143)); have n3_ := qa.mk ((by rw [hg]; exact (qr cu) : w.heap.size ≤ gb143)); clear HB; have HB := n0_; have BK143 := n1_; have GW143 := n2_; have GE143 := n3_; clear n0_ n1_ n2_ n3_; clear hb hbox hg) | ((with_reducible refine zn (f := 90) rfl ?_); refine kd (some 13) rfl rfl Tryz.func90 yj rfl #[.string a0, .string (⟨#[61]⟩ : ByteArray)] rfl yc ?_; (with_reducible refine (strings_Cut.calls a0 (⟨#[61]⟩ : ByteArray) t144 t145 true _ ?side1 A2.out).mono ?_); (case side1 => exact LibHeld.below HG.out ym); rintro e w7 ⟨rfl, hb⟩; refine ⟨_, rfl, ?_⟩; have n0_ := qa.mk (q9 (g := gb143) (o := .cells #[.string (⟨#[]⟩ : ByteArray), .int .i64 0, .string (⟨#[]⟩ : ByteArray)] 40 (0, 0)) yx hb); have n1_ := qa.mk (qp ym hb); clear BK143; clear HB; have BK143 := n0_; have HB := n1_; clear n0_ n1_; (try clear hb); (try clear hb2); (try clear hk); (try clear hi)) | ((with_reducible refine zn (f := 49) rfl ?_); refine kd (some 20) rfl rfl Tryz.func49 yj rfl #[] rfl yc ?_; (with_reducible refine (dname_shorts.calls  t147 _ A4.out).mono ?_); rintro e w8 ⟨v148, rfl, ho0, hb⟩; refine ⟨_, rfl, ?_⟩; have n0_ := qa.mk (Kd.R_lower ho0 (qr ym)); have n1_ := qa.mk (q9 (g := gb143) (o := .cells #[.string (⟨#[]⟩ : ByteArray), .int .i64 0, .string (⟨#[]⟩ : ByteArray)] 40 (0, 0)) yx hb); have n2_ := qa.mk (qp ym hb); clear BK143; clear HB; have HO149 := n0_; have BK143 := n1_; have HB := n2_; clear n0_ n1_ n2_; (try clear hb); (try clear hb2); (try clear hk); (try clear hi); (try clear ho0); obtain ⟨Ao9, co9, eo9⟩ := Kd.kj HO149.out; subst eo9))
  (try simp only [Act.put, List.setIfInBounds_toArray, List.set_cons_zero, List.set_cons_succ])
  go_cut [4] (fun v4 wc => ∃ (kq : Nat) (x4_4 : ByteArray), v4 = .string x4_4 ∧ qa (qq.j1 kq x4_4 t145 = some (r1, r2, r3, r4)) ∧ qa (kq ≤ k) ∧ qa (wc.heap[gb143]? = some (.cells #[.string (⟨#[]⟩ : ByteArray), .int .i64 0, .string (⟨#[]⟩ : ByteArray)] 40 (0, 0))) ∧ qa (Below w.heap.size w wc))
  case first =>
   have H := HC5.out
   clear HC5
   have H' := qa.mk H
   clear H
   go_wp2
   go_loopg [4, 22] k (fun kq v4 v22 w' => ∃ (x4_1 : ByteArray) (x22_1 : Int), v4 = .string x4_1 ∧ v22 = .int .i64 x22_1 ∧ qa (qq.l0 kq x4_1 t145 t147 (t147.length : Int) x22_1 = some (r1, r2, r3, r4)) ∧ qa (kq ≤ k) ∧ qa (Kd.R k83 83 w' w.heap.size (fun _ => True) (.slice Ao9 t147.length co9) t147) ∧ qa (w'.heap[gb143]? = some (.cells #[.string (⟨#[]⟩ : ByteArray), .int .i64 0, .string (⟨#[]⟩ : ByteArray)] 40 (0, 0))) ∧ qa (Below w.heap.size w w'))
   case atStart => exact ⟨(t144), (0), yf, yf, H', ⟨Nat.le_refl _⟩, ⟨by (with_reducible repeat (first | apply Kd.zh | apply Kd.zg | apply Kd.zr)); exact HO149.out⟩, ⟨by (with_reducible repeat (first | refine qg ?_ _ | refine qi ?_ | refine qf ?_ _)); exact BK143.out⟩, ⟨by repeat (first | (with_reducible first | exact HB.out | apply qc | apply qb | apply qd | refine qe ?_ GE143.out) | exact HB.out)⟩⟩
   case round =>
    clear H'
    (try clear p2); (try clear c3); (try clear c4); (try clear c5); try clear c9
    obtain ⟨x4_1, x22_1, rfl, rfl, HA, HK1, HO_20, BK143, HB⟩ := hrel
    cases gk with
    | zero => exact absurd HA.out (by simp [qq.l0])
    | succ k1 =>
     have H := HA.out
     clear HA
     simp only [qq.l0] at H
     by_cases c10 : x22_1 < (t147.length : Int)
     ·rw [if_pos c10] at H
      have c10b0 : decide (x22_1 < (t147.length : Int)) = true := decide_eq_true c10
      clear c10
      (first | rw [c10b0] | (simp only [zm, zq]; rw [c10b0]) | skip)
      by_cases c11 : 0 ≤ x22_1
      ·rw [if_pos c11] at H
       have c11b0 : decide (0 ≤ x22_1) = true := decide_eq_true c11
       clear c11
       by_cases c12 : x22_1 < (t147.length : Int)
       ·rw [if_pos c12] at H
        have c12b0 : decide (x22_1 < (t147.length : Int)) = true := decide_eq_true c12
        clear c12
        by_cases c13 : ((rd_T83 t147 x22_1).f0).toList = x4_1.toList
        ·rw [if_pos c13] at H
         have c13b0 : (((rd_T83 t147 x22_1).f0).toList == x4_1.toList) = true := beq_iff_eq.mpr c13
         have c13b1 : (((rd_T83 t147 x22_1).f0).toList != x4_1.toList) = false := bne_eq_false_iff_eq.mpr c13
         clear c13
         have H' := qa.mk H
         clear H
         have p150 : 0 ≤ (x22_1 : Int) := of_decide_eq_true cz
         have q150 : x22_1 < (t147.length : Int) := of_decide_eq_true cz
         obtain ⟨ad150, e150, hx150_0, hx150_1⟩ := at_T83 (Kd.xp HO_20.out).2.2 x22_1 p150 q150
         cases e150
         replace p150 := eq_true p150
         replace q150 := eq_true q150
         go_wp2_with (first | ((with_reducible refine zl (N := 8) rfl ?_); refine zo ?hg (N := 8) ?hd (cs := #[.string (⟨#[]⟩ : ByteArray), .string (⟨#[]⟩ : ByteArray)]) (t := 83) ?hr ?_; (case hd => rfl); (case hg => rfl); (case hr => first | (go_simp; done) | (go_simp; rfl)); intro gb151 hg w14 hbox hb; have n0_ := qa.mk (Kd.kt (Kd.R_elderB (by (with_reducible repeat (first | apply Kd.zh | apply Kd.zg | apply Kd.zr)); exact HO_20.out) gb151 (Nat.le_of_eq hg.symm)) hb); have n1_ := qa.mk (q9 (g := gb143) (o := .cells #[.string (⟨#[]⟩ : ByteArray), .int .i64 0, .string (⟨#[]⟩ : ByteArray)] 40 (0, 0)) yx hb); have n2_ := qa.mk (qp ym hb); have n3_ := qa.mk (hbox); have n4_ := qa.mk ((by rw [hg]; exact (qr ym) : w.heap.size ≤ gb151)); have n5_ := qa.mk ((by rw [hg]; exact (qr ym) : w.heap.size ≤ gb151)); have n6_ := qa.mk ((by rw [hg]; exact Nat.ne_of_lt (zz (g := gb143) (o := .cells #[.string (⟨#[]⟩ : ByteArray), .int .i64 0, .string (⟨#[]⟩ : ByteArray)] 40 (0, 0)) yx) : gb143 ≠ gb151)); have n7_ := qa.mk ((by rw [hg]; exact Nat.ne_of_gt (zz (g := gb143) (o := .cells #[.string (⟨#[]⟩ : ByteArray), .int .i64 0, .string (⟨#[]⟩ : ByteArray)] 40 (0, 0)) yx) : gb151 ≠ gb143)); clear HO_20; clear BK143; clear HB; have HO_20 := n0_; have BK143 := n1_; have HB := n2_; have BK151 := n3_; have GW151 := n4_; have GE151 := n5_; have NB143_151 := n6_; have NB151_143 := n7_; clear n0_ n1_ n2_ n3_ n4_ n5_ n6_ n7_; clear hb hbox hg; have hnb15 := NB151_143.out; have hnc15 := NB143_151.out; have hcz16_0 : w14.cell? ⟨gb151, 0, none⟩ = some (.string (⟨#[]⟩ : ByteArray)) := (ql BK151.out 0).trans rfl; have hcz16_1 : w14.cell? ⟨gb151, 1, none⟩ = some (.string (⟨#[]⟩ : ByteArray)) := (ql BK151.out 1).trans rfl; have hfz16_0 := qo BK151.out 0; have hfz16_1 := qo BK151.out 1))
         go_meet
         case rel => exact ⟨_, ((rd_T83 t147 x22_1).f1), yf, H', ⟨by have := HK1.out; first | omega | exact Nat.le_refl _⟩, ⟨by (with_reducible repeat (first | refine qg ?_ _ | refine qi ?_ | refine qf ?_ _)); refine xt ?_ NB143_151.out _; (with_reducible repeat (first | refine qg ?_ _ | refine qi ?_ | refine qf ?_ _)); refine xt ?_ NB143_151.out _; (with_reducible repeat (first | refine qg ?_ _ | refine qi ?_ | refine qf ?_ _)); exact BK143.out⟩, ⟨by repeat (first | (with_reducible first | exact HB.out | apply qc | apply qb | apply qd | refine qe ?_ GE143.out | refine qe ?_ GE151.out) | exact HB.out)⟩⟩
        ·rw [if_neg c13] at H
         have c13b0 : (((rd_T83 t147 x22_1).f0).toList == x4_1.toList) = false := beq_eq_false_iff_ne.mpr c13
         have c13b1 : (((rd_T83 t147 x22_1).f0).toList != x4_1.toList) = true := bne_iff_ne.mpr c13
         have H' := qa.mk H
         clear H
         have p150 : 0 ≤ (x22_1 : Int) := of_decide_eq_true cz
         have q150 : x22_1 < (t147.length : Int) := of_decide_eq_true cz
         obtain ⟨ad150, e150, hx150_0, hx150_1⟩ := at_T83 (Kd.xp HO_20.out).2.2 x22_1 p150 q150
         cases e150
         replace p150 := eq_true p150
         replace q150 := eq_true q150
         go_wp2_with (first | ((with_reducible refine zl (N := 8) rfl ?_); refine zo ?hg (N := 8) ?hd (cs := #[.string (⟨#[]⟩ : ByteArray), .string (⟨#[]⟩ : ByteArray)]) (t := 83) ?hr ?_; (case hd => rfl); (case hg => rfl); (case hr => first | (go_simp; done) | (go_simp; rfl)); intro gb151 hg w17 hbox hb; have n0_ := qa.mk (Kd.kt (Kd.R_elderB (by (with_reducible repeat (first | apply Kd.zh | apply Kd.zg | apply Kd.zr)); exact HO_20.out) gb151 (Nat.le_of_eq hg.symm)) hb); have n1_ := qa.mk (q9 (g := gb143) (o := .cells #[.string (⟨#[]⟩ : ByteArray), .int .i64 0, .string (⟨#[]⟩ : ByteArray)] 40 (0, 0)) yx hb); have n2_ := qa.mk (qp ym hb); have n3_ := qa.mk (hbox); have n4_ := qa.mk ((by rw [hg]; exact (qr ym) : w.heap.size ≤ gb151)); have n5_ := qa.mk ((by rw [hg]; exact (qr ym) : w.heap.size ≤ gb151)); have n6_ := qa.mk ((by rw [hg]; exact Nat.ne_of_lt (zz (g := gb143) (o := .cells #[.string (⟨#[]⟩ : ByteArray), .int .i64 0, .string (⟨#[]⟩ : ByteArray)] 40 (0, 0)) yx) : gb143 ≠ gb151)); have n7_ := qa.mk ((by rw [hg]; exact Nat.ne_of_gt (zz (g := gb143) (o := .cells #[.string (⟨#[]⟩ : ByteArray), .int .i64 0, .string (⟨#[]⟩ : ByteArray)] 40 (0, 0)) yx) : gb151 ≠ gb143)); clear HO_20; clear BK143; clear HB; have HO_20 := n0_; have BK143 := n1_; have HB := n2_; have BK151 := n3_; have GW151 := n4_; have GE151 := n5_; have NB143_151 := n6_; have NB151_143 := n7_; clear n0_ n1_ n2_ n3_ n4_ n5_ n6_ n7_; clear hb hbox hg; have hnb18 := NB151_143.out; have hnc18 := NB143_151.out; have hcz19_0 : w17.cell? ⟨gb151, 0, none⟩ = some (.string (⟨#[]⟩ : ByteArray)) := (ql BK151.out 0).trans rfl; have hcz19_1 : w17.cell? ⟨gb151, 1, none⟩ = some (.string (⟨#[]⟩ : ByteArray)) := (ql BK151.out 1).trans rfl; have hfz19_0 := qo BK151.out 0; have hfz19_1 := qo BK151.out 1))
         go_roundg k1
         case measure => have := HK1.out; omega
         case rel => exact ⟨(x4_1), (wrap64 (x22_1 + 1)), yf, yf, H', ⟨by have := HK1.out; omega⟩, ⟨by (with_reducible repeat (first | apply Kd.zh | apply Kd.zg | apply Kd.zr)); exact Kd.kn (Kd.R_far (p := ⟨gb151, 1, none⟩) (Kd.R_far (p := ⟨gb151, 0, none⟩) (Kd.kn HO_20.out (fun k_ hk => (⟨hk, hk.2⟩ : _ ∧ k_ ≠ gb151))) (fun _ hk => hk.2) (.string ((rd_T83 t147 x22_1).f0))) (fun _ hk => hk.2) (.string ((rd_T83 t147 x22_1).f1))) (fun _ hk => trivial)⟩, ⟨by (with_reducible repeat (first | refine qg ?_ _ | refine qi ?_ | refine qf ?_ _)); refine xt ?_ NB143_151.out _; (with_reducible repeat (first | refine qg ?_ _ | refine qi ?_ | refine qf ?_ _)); refine xt ?_ NB143_151.out _; (with_reducible repeat (first | refine qg ?_ _ | refine qi ?_ | refine qf ?_ _)); exact BK143.out⟩, ⟨by repeat (first | (with_reducible first | exact HB.out | apply qc | apply qb | apply qd | refine qe ?_ GE143.out | refine qe ?_ GE151.out) | exact HB.out)⟩⟩
       ·rw [if_neg c12] at H
        exact absurd H yt
      ·rw [if_neg c11] at H
       exact absurd H yt
     ·rw [if_neg c10] at H
      have c10b0 : decide (x22_1 < (t147.length : Int)) = false := decide_eq_false c10
      clear c10
      (first | rw [c10b0] | (simp only [zm, zq]; rw [c10b0]) | skip)
      have H' := qa.mk H
      clear H
      go_wp2
      go_meet
      case rel => exact ⟨_, (x4_1), yf, H', ⟨by have := HK1.out; first | omega | exact Nat.le_refl _⟩, ⟨by (with_reducible repeat (first | refine qg ?_ _ | refine qi ?_ | refine qf ?_ _)); exact BK143.out⟩, ⟨by repeat (first | (with_reducible first | exact HB.out | apply qc | apply qb | apply qd | refine qe ?_ GE143.out) | exact HB.out)⟩⟩
  case rest =>
   clear HC5
   (try clear c1); (try clear p1); (try clear q1); (try clear hx1); (try clear p2); (try clear c3); (try clear c4); (try clear c5); (try clear p6); (try clear c9); (try clear c10); (try clear c10b0); try clear c11
   (try clear c11b0); (try clear c12); (try clear c12b0); (try clear c13); (try clear c13b0); (try clear c13b1); (try clear c15); (try clear p15); (try clear q15); (try clear hx15); (try clear c18); try clear hcz16_0
   (try clear hcz16_1); (try clear hcz19_0); (try clear hcz19_1); (try clear hfz16_0); (try clear hfz16_1); (try clear hfz19_0); (try clear hfz19_1); (try clear hx150_0); (try clear hx150_1); try clear p150
   (try clear p2); try clear q150
   obtain ⟨kq, x4_4, rfl, HA, HJ4, BK143, HB⟩ := hcut
   cases kq with
   | zero => exact absurd HA.out (by simp [qq.j1])
   | succ kj4 =>
    have H := HA.out
    clear HA
    simp only [qq.j1] at H
    replace H := Option.bind_eq_some_iff.mp H
    obtain ⟨⟨t152, t153⟩, A200, H⟩ := H
    replace H : (if t153 = true then ((xn.f kj4 x4_4).bind fun t154 => (qq.j2 kj4 x4_4 t152 (!t154))) else (qq.j2 kj4 x4_4 t152 true)) = some (r1, r2, r3, r4) := H
    have A20 := qa.mk A200
    clear A200
    have HC21 := qa.mk H
    clear H
    go_upto_region 11 with (first | ((with_reducible refine zn (f := 91) rfl ?_); refine kd (some 35) rfl rfl Tryz.func91 yj rfl #[.string t145] rfl yc ?_; (with_reducible refine (qz.calls kj4 t145 t152 t153 _ A20.out).mono ?_); rintro e w22 ⟨rfl, hb⟩; refine ⟨_, rfl, ?_⟩; have n0_ := qa.mk (q9 (g := gb143) (o := .cells #[.string (⟨#[]⟩ : ByteArray), .int .i64 0, .string (⟨#[]⟩ : ByteArray)] 40 (0, 0)) yx hb); have n1_ := qa.mk (qp ym hb); clear BK143; clear HB; have BK143 := n0_; have HB := n1_; clear n0_ n1_; (try clear hb); (try clear hb2); (try clear hk); (try clear hi)))
    (try simp only [Act.put, List.setIfInBounds_toArray, List.set_cons_zero, List.set_cons_succ])
    go_cut [44] (fun v44 wc => ∃ (kq : Nat) (x44_20 : Bool), v44 = .bool x44_20 ∧ qa (qq.j2 kq x4_4 t152 x44_20 = some (r1, r2, r3, r4)) ∧ qa (kq ≤ kj4) ∧ qa (wc.heap[gb143]? = some (.cells #[.string (⟨#[]⟩ : ByteArray), .int .i64 0, .string (⟨#[]⟩ : ByteArray)] 40 (0, 0))) ∧ qa (Below w.heap.size w wc))
    case first =>
     have H := HC21.out
     clear HC21
     by_cases c23 : t153 = true
     ·subst c23
      have H1 : ((xn.f kj4 x4_4).bind fun t154 => (qq.j2 kj4 x4_4 t152 (!t154))) = some (r1, r2, r3, r4) := by rw [if_pos rfl] at H; exact H
      clear H
      have H := H1
      clear H1
      replace H := Option.bind_eq_some_iff.mp H
      obtain ⟨t154, A240, H⟩ := H
      replace H : (qq.j2 kj4 x4_4 t152 (!t154)) = some (r1, r2, r3, r4) := H
      have A24 := qa.mk A240
      clear A240
      have H' := qa.mk H
      clear H
      go_wp2_with (first | (go_at_call 74; (with_reducible refine (xn.calls kj4 x4_4 t154 _ ?side1 A24.out).mono ?_); (case side1 => exact LibHeld.below HG.out ym); rintro e w25 ⟨rfl, hb⟩; have n0_ := qa.mk (q9 (g := gb143) (o := .cells #[.string (⟨#[]⟩ : ByteArray), .int .i64 0, .string (⟨#[]⟩ : ByteArray)] 40 (0, 0)) yx hb); have n1_ := qa.mk (qp ym hb); clear BK143; clear HB; have BK143 := n0_; have HB := n1_; clear n0_ n1_; (try clear hb); (try clear hb2); (try clear hk); (try clear hi)))
      go_meet
      case rel => exact ⟨_, (!t154), yf, H', ⟨by have := HJ4.out; first | omega | exact Nat.le_refl _⟩, ⟨by (with_reducible repeat (first | refine qg ?_ _ | refine qi ?_ | refine qf ?_ _)); exact BK143.out⟩, ⟨by repeat (first | (with_reducible first | exact HB.out | apply qc | apply qb | apply qd | refine qe ?_ GE143.out) | exact HB.out)⟩⟩
     ·replace c23 := Bool.eq_false_iff.mpr c23
      subst c23
      have H1 : (qq.j2 kj4 x4_4 t152 true) = some (r1, r2, r3, r4) := by rw [if_neg (show ¬ (false = true) by decide)] at H; exact H
      clear H
      have H := H1
      clear H1
      have H' := qa.mk H
      clear H
      go_wp2
      go_meet
      case rel => exact ⟨_, (true), yf, H', ⟨by have := HJ4.out; first | omega | exact Nat.le_refl _⟩, ⟨by (with_reducible repeat (first | refine qg ?_ _ | refine qi ?_ | refine qf ?_ _)); exact BK143.out⟩, ⟨by repeat (first | (with_reducible first | exact HB.out | apply qc | apply qb | apply qd | refine qe ?_ GE143.out) | exact HB.out)⟩⟩
    case rest =>
     clear HC21
     (try clear c1); (try clear p1); (try clear q1); (try clear hx1); (try clear c2); (try clear p2); (try clear c3); (try clear c4); (try clear c5); (try clear p6); (try clear c9); try clear c10
     (try clear c10b0); (try clear c11); (try clear c11b0); (try clear c12); (try clear c12b0); (try clear c13); (try clear c13b0); (try clear c13b1); (try clear c15); (try clear p15); try clear q15
     (try clear hx15); (try clear c18); (try clear c23); (try clear hcz16_0); (try clear hcz16_1); (try clear hcz19_0); (try clear hcz19_1); (try clear hfz16_0); (try clear hfz16_1); try clear hfz19_0
     (try clear hfz19_1); (try clear hx150_0); (try clear hx150_1); (try clear p1); (try clear p15); (try clear p150); (try clear p2); (try clear p6); (try clear q1); (try clear q15); try clear q150
     obtain ⟨kq, x44_20, rfl, HA, HJ20, BK143, HB⟩ := hcut
     cases kq with
     | zero => exact absurd HA.out (by simp [qq.j2])
     | succ kj20 =>
      have H := HA.out
      clear HA
      simp only [qq.j2] at H
      by_cases c26 : x44_20 = true
      ·subst c26
       have H1 : (some ((⟨#[]⟩ : ByteArray), 0, (⟨#[]⟩ : ByteArray), false)) = some (r1, r2, r3, r4) := by rw [if_pos rfl] at H; exact H
       clear H
       have H := H1
       clear H1
       simp only [Option.some.injEq, Prod.mk.injEq] at H
       obtain ⟨rfl, rfl, rfl, rfl⟩ := H
       have hcz27_0 : wc.cell? ⟨gb143, 0, none⟩ = some (.string (⟨#[]⟩ : ByteArray)) := (ql BK143.out 0).trans rfl
       have hcz27_1 : wc.cell? ⟨gb143, 1, none⟩ = some (.int .i64 0) := (ql BK143.out 1).trans rfl
       have hcz27_2 : wc.cell? ⟨gb143, 2, none⟩ = some (.string (⟨#[]⟩ : ByteArray)) := (ql BK143.out 2).trans rfl
       have hfz27_0 := qo BK143.out 0
       have hfz27_1 := qo BK143.out 1
       have hfz27_2 := qo BK143.out 2
       go_wp2
       refine bodyPost_ret (results_ct rfl _ _ gb143 40 #[.string (⟨#[]⟩ : ByteArray), .int .i64 0, .string (⟨#[]⟩ : ByteArray)] (0, 0) _ rfl (by (with_reducible repeat (first | refine qg ?_ _ | refine qi ?_ | refine qf ?_ _)); refine zu (cs := #[.string (⟨#[]⟩ : ByteArray), .int .i64 0, .string (⟨#[]⟩ : ByteArray)]) ?_ 2 _ rfl; (with_reducible repeat (first | refine qg ?_ _ | refine qi ?_ | refine qf ?_ _)); refine zu (cs := #[.string (⟨#[]⟩ : ByteArray), .int .i64 0, .string (⟨#[]⟩ : ByteArray)]) ?_ 1 _ rfl; (with_reducible repeat (first | refine qg ?_ _ | refine qi ?_ | refine qf ?_ _)); refine zu (cs := #[.string (⟨#[]⟩ : ByteArray), .int .i64 0, .string (⟨#[]⟩ : ByteArray)]) ?_ 0 _ rfl; (with_reducible repeat (first | refine qg ?_ _ | refine qi ?_ | refine qf ?_ _)); exact BK143.out) Tryz.underlying40 rfl yj) rfl ?_
       exact ⟨by first | rfl | (simp [qu, qt] <;> rfl) | (simp [*, qu, qt] <;> rfl), by repeat (first | (with_reducible first | exact HB.out | apply qc | apply qb | apply qd | refine qe ?_ GE143.out) | exact HB.out)⟩
      ·replace c26 := Bool.eq_false_iff.mpr c26
       subst c26
       have H1 : (if x4_4.toList = ([48, 46, 57, 46, 50, 51, 52, 50, 46, 49, 57, 50, 48, 48, 51, 48, 48, 46, 49, 48, 48, 46, 49, 46, 50, 53] : List UInt8) then (qq.j3 kj20 x4_4 t152 12 true) else (qq.j3 kj20 x4_4 t152 12 (x4_4.toList == ([49, 46, 50, 46, 56, 52, 48, 46, 49, 49, 51, 53, 52, 57, 46, 49, 46, 57, 46, 49] : List UInt8)))) = some (r1, r2, r3, r4) := by rw [if_neg (show ¬ (false = true) by decide)] at H; exact H
       clear H
       have H := H1
       clear H1
       have HC28 := qa.mk H
       clear H
       go_upto_region 14 with (fail)
       go_cut [46] (fun v46 wc => ∃ (kq : Nat) (x46_27 : Bool), v46 = .bool x46_27 ∧ qa (qq.j3 kq x4_4 t152 12 x46_27 = some (r1, r2, r3, r4)) ∧ qa (kq ≤ kj20) ∧ qa (wc.heap[gb143]? = some (.cells #[.string (⟨#[]⟩ : ByteArray), .int .i64 0, .string (⟨#[]⟩ : ByteArray)] 40 (0, 0))) ∧ qa (Below w.heap.size w wc))
       case first =>
        have H := HC28.out
        clear HC28
        by_cases c29 : x4_4.toList = ([48, 46, 57, 46, 50, 51, 52, 50, 46, 49, 57, 50, 48, 48, 51, 48, 48, 46, 49, 48, 48, 46, 49, 46, 50, 53] : List UInt8)
        ·rw [if_pos c29] at H
         have c29b0 : (x4_4.toList == ([48, 46, 57, 46, 50, 51, 52, 50, 46, 49, 57, 50, 48, 48, 51, 48, 48, 46, 49, 48, 48, 46, 49, 46, 50, 53] : List UInt8)) = true := beq_iff_eq.mpr c29
         have c29b1 : (x4_4.toList != ([48, 46, 57, 46, 50, 51, 52, 50, 46, 49, 57, 50, 48, 48, 51, 48, 48, 46, 49, 48, 48, 46, 49, 46, 50, 53] : List UInt8)) = false := bne_eq_false_iff_eq.mpr c29
         clear c29
         (first | rw [c29b0] | (simp only [zm, zq]; rw [c29b0]) | skip)
         have H' := qa.mk H
         clear H
         go_wp2
         go_meet
         case rel => exact ⟨_, (true), yf, H', ⟨by have := HJ4.out; have := HJ20.out; first | omega | exact Nat.le_refl _⟩, ⟨by (with_reducible repeat (first | refine qg ?_ _ | refine qi ?_ | refine qf ?_ _)); exact BK143.out⟩, ⟨by repeat (first | (with_reducible first | exact HB.out | apply qc | apply qb | apply qd | refine qe ?_ GE143.out) | exact HB.out)⟩⟩
        ·rw [if_neg c29] at H
         have c29b0 : (x4_4.toList == ([48, 46, 57, 46, 50, 51, 52, 50, 46, 49, 57, 50, 48, 48, 51, 48, 48, 46, 49, 48, 48, 46, 49, 46, 50, 53] : List UInt8)) = false := beq_eq_false_iff_ne.mpr c29
         have c29b1 : (x4_4.toList != ([48, 46, 57, 46, 50, 51, 52, 50, 46, 49, 57, 50, 48, 48, 51, 48, 48, 46, 49, 48, 48, 46, 49, 46, 50, 53] : List UInt8)) = true := bne_iff_ne.mpr c29
         (first | rw [c29b0] | (simp only [zm, zq]; rw [c29b0]) | skip)
         have H' := qa.mk H
         clear H
         go_wp2
         go_meet
         case rel => exact ⟨_, ((x4_4.toList == ([49, 46, 50, 46, 56, 52, 48, 46, 49, 49, 51, 53, 52, 57, 46, 49, 46, 57, 46, 49] : List UInt8))), yf, H', ⟨by have := HJ4.out; have := HJ20.out; first | omega | exact Nat.le_refl _⟩, ⟨by (with_reducible repeat (first | refine qg ?_ _ | refine qi ?_ | refine qf ?_ _)); exact BK143.out⟩, ⟨by repeat (first | (with_reducible first | exact HB.out | apply qc | apply qb | apply qd | refine qe ?_ GE143.out) | exact HB.out)⟩⟩
       case rest =>
        clear HC28
        (try clear c1); (try clear p1); (try clear q1); (try clear hx1); (try clear c2); (try clear p2); (try clear c3); (try clear c4); (try clear c5); (try clear p6); (try clear c9); try clear c10
        (try clear c10b0); (try clear c11); (try clear c11b0); (try clear c12); (try clear c12b0); (try clear c13); (try clear c13b0); (try clear c13b1); (try clear c15); (try clear p15); try clear q15
        (try clear hx15); (try clear c18); (try clear c23); (try clear c26); (try clear c29); (try clear c29b0); (try clear c29b1); (try clear hcz16_0); (try clear hcz16_1); (try clear hcz19_0); try clear hcz19_1
        (try clear hcz27_0); (try clear hcz27_1); (try clear hcz27_2); (try clear hfz16_0); (try clear hfz16_1); (try clear hfz19_0); (try clear hfz19_1); (try clear hfz27_0); try clear hfz27_1
        (try clear hfz27_2); (try clear hx150_0); (try clear hx150_1); (try clear p1); (try clear p15); (try clear p150); (try clear p2); (try clear p6); (try clear q1); (try clear q15); try clear q150
        obtain ⟨kq, x46_27, rfl, HA, HJ27, BK143, HB⟩ := hcut
        cases kq with
        | zero => exact absurd HA.out (by simp [qq.j3])
        | succ kj27 =>
         have H := HA.out
         clear HA
         simp only [qq.j3] at H
         by_cases c30 : x46_27 = true
         ·subst c30
          have H1 : (some (x4_4, 22, t152, true)) = some (r1, r2, r3, r4) := by rw [if_pos rfl] at H; exact H
          clear H
          have H := H1
          clear H1
          simp only [Option.some.injEq, Prod.mk.injEq] at H
          obtain ⟨rfl, rfl, rfl, rfl⟩ := H
          have hcz31_0 : wc.cell? ⟨gb143, 0, none⟩ = some (.string (⟨#[]⟩ : ByteArray)) := (ql BK143.out 0).trans rfl
          have hcz31_1 : wc.cell? ⟨gb143, 1, none⟩ = some (.int .i64 0) := (ql BK143.out 1).trans rfl
          have hcz31_2 : wc.cell? ⟨gb143, 2, none⟩ = some (.string (⟨#[]⟩ : ByteArray)) := (ql BK143.out 2).trans rfl
          have hfz31_0 := qo BK143.out 0
          have hfz31_1 := qo BK143.out 1
          have hfz31_2 := qo BK143.out 2
          go_wp2
          refine bodyPost_ret (results_ct rfl _ _ gb143 40 #[.string x4_4, .int .i64 22, .string t152] (0, 0) _ rfl (by (with_reducible repeat (first | refine qg ?_ _ | refine qi ?_ | refine qf ?_ _)); refine zu (cs := #[.string x4_4, .int .i64 22, .string (⟨#[]⟩ : ByteArray)]) ?_ 2 _ rfl; (with_reducible repeat (first | refine qg ?_ _ | refine qi ?_ | refine qf ?_ _)); refine zu (cs := #[.string x4_4, .int .i64 0, .string (⟨#[]⟩ : ByteArray)]) ?_ 1 _ rfl; (with_reducible repeat (first | refine qg ?_ _ | refine qi ?_ | refine qf ?_ _)); refine zu (cs := #[.string (⟨#[]⟩ : ByteArray), .int .i64 0, .string (⟨#[]⟩ : ByteArray)]) ?_ 0 _ rfl; (with_reducible repeat (first | refine qg ?_ _ | refine qi ?_ | refine qf ?_ _)); exact BK143.out) Tryz.underlying40 rfl yj) rfl ?_
          exact ⟨by first | rfl | (simp [qu, qt] <;> rfl) | (simp [*, qu, qt] <;> rfl), by repeat (first | (with_reducible first | exact HB.out | apply qc | apply qb | apply qd | refine qe ?_ GE143.out) | exact HB.out)⟩
         ·replace c30 := Bool.eq_false_iff.mpr c30
          subst c30
          have H1 : ((jc.f 19 t152).bind fun t155 => (if t155 = true then (some (x4_4, 19, t152, true)) else (some (x4_4, 12, t152, true)))) = some (r1, r2, r3, r4) := by rw [if_neg (show ¬ (false = true) by decide)] at H; exact H
          clear H
          have H := H1
          clear H1
          replace H := Option.bind_eq_some_iff.mp H
          obtain ⟨t155, A320, H⟩ := H
          replace H : (if t155 = true then (some (x4_4, 19, t152, true)) else (some (x4_4, 12, t152, true))) = some (r1, r2, r3, r4) := H
          have A32 := qa.mk A320
          clear A320
          by_cases c33 : t155 = true
          ·subst c33
           have H1 : (some (x4_4, 19, t152, true)) = some (r1, r2, r3, r4) := by rw [if_pos rfl] at H; exact H
           clear H
           have H := H1
           clear H1
           simp only [Option.some.injEq, Prod.mk.injEq] at H
           obtain ⟨rfl, rfl, rfl, rfl⟩ := H
           go_wp2_with (first | ((with_reducible refine zn (f := 75) rfl ?_); refine kd (some 55) rfl rfl Tryz.func75 yj rfl #[.int .i64 19, .string t152] rfl yc ?_; (with_reducible refine (jc.calls 19 t152 true _ A32.out).mono ?_); rintro e w34 ⟨rfl, hb⟩; refine ⟨_, rfl, ?_⟩; have n0_ := qa.mk (q9 (g := gb143) (o := .cells #[.string (⟨#[]⟩ : ByteArray), .int .i64 0, .string (⟨#[]⟩ : ByteArray)] 40 (0, 0)) yx hb); have n1_ := qa.mk (qp ym hb); clear BK143; clear HB; have BK143 := n0_; have HB := n1_; clear n0_ n1_; (try clear hb); (try clear hb2); (try clear hk); (try clear hi); have hcz35_0 : w34.cell? ⟨gb143, 0, none⟩ = some (.string (⟨#[]⟩ : ByteArray)) := (ql BK143.out 0).trans rfl; have hcz35_1 : w34.cell? ⟨gb143, 1, none⟩ = some (.int .i64 0) := (ql BK143.out 1).trans rfl; have hcz35_2 : w34.cell? ⟨gb143, 2, none⟩ = some (.string (⟨#[]⟩ : ByteArray)) := (ql BK143.out 2).trans rfl; have hfz35_0 := qo BK143.out 0; have hfz35_1 := qo BK143.out 1; have hfz35_2 := qo BK143.out 2))
           refine bodyPost_ret (results_ct rfl _ _ gb143 40 #[.string x4_4, .int .i64 19, .string t152] (0, 0) _ rfl (by (with_reducible repeat (first | refine qg ?_ _ | refine qi ?_ | refine qf ?_ _)); refine zu (cs := #[.string x4_4, .int .i64 19, .string (⟨#[]⟩ : ByteArray)]) ?_ 2 _ rfl; (with_reducible repeat (first | refine qg ?_ _ | refine qi ?_ | refine qf ?_ _)); refine zu (cs := #[.string x4_4, .int .i64 0, .string (⟨#[]⟩ : ByteArray)]) ?_ 1 _ rfl; (with_reducible repeat (first | refine qg ?_ _ | refine qi ?_ | refine qf ?_ _)); refine zu (cs := #[.string (⟨#[]⟩ : ByteArray), .int .i64 0, .string (⟨#[]⟩ : ByteArray)]) ?_ 0 _ rfl; (with_reducible repeat (first | refine qg ?_ _ | refine qi ?_ | refine qf ?_ _)); exact BK143.out) Tryz.underlying40 rfl yj) rfl ?_
           exact ⟨by first | rfl | (simp [qu, qt] <;> rfl) | (simp [*, qu, qt] <;> rfl), by repeat (first | (with_reducible first | exact HB.out | apply qc | apply qb | apply qd | refine qe ?_ GE143.out) | exact HB.out)⟩
          ·replace c33 := Bool.eq_false_iff.mpr c33
           subst c33
           have H1 : (some (x4_4, 12, t152, true)) = some (r1, r2, r3, r4) := by rw [if_neg (show ¬ (false = true) by decide)] at H; exact H
           clear H
           have H := H1
           clear H1
           simp only [Option.some.injEq, Prod.mk.injEq] at H
           obtain ⟨rfl, rfl, rfl, rfl⟩ := H
           go_wp2_with (first | ((with_reducible refine zn (f := 75) rfl ?_); refine kd (some 55) rfl rfl Tryz.func75 yj rfl #[.int .i64 19, .string t152] rfl yc ?_; (with_reducible refine (jc.calls 19 t152 false _ A32.out).mono ?_); rintro e w36 ⟨rfl, hb⟩; refine ⟨_, rfl, ?_⟩; have n0_ := qa.mk (q9 (g := gb143) (o := .cells #[.string (⟨#[]⟩ : ByteArray), .int .i64 0, .string (⟨#[]⟩ : ByteArray)] 40 (0, 0)) yx hb); have n1_ := qa.mk (qp ym hb); clear BK143; clear HB; have BK143 := n0_; have HB := n1_; clear n0_ n1_; (try clear hb); (try clear hb2); (try clear hk); (try clear hi); have hcz37_0 : w36.cell? ⟨gb143, 0, none⟩ = some (.string (⟨#[]⟩ : ByteArray)) := (ql BK143.out 0).trans rfl; have hcz37_1 : w36.cell? ⟨gb143, 1, none⟩ = some (.int .i64 0) := (ql BK143.out 1).trans rfl; have hcz37_2 : w36.cell? ⟨gb143, 2, none⟩ = some (.string (⟨#[]⟩ : ByteArray)) := (ql BK143.out 2).trans rfl; have hfz37_0 := qo BK143.out 0; have hfz37_1 := qo BK143.out 1; have hfz37_2 := qo BK143.out 2))
           refine bodyPost_ret (results_ct rfl _ _ gb143 40 #[.string x4_4, .int .i64 12, .string t152] (0, 0) _ rfl (by (with_reducible repeat (first | refine qg ?_ _ | refine qi ?_ | refine qf ?_ _)); refine zu (cs := #[.string x4_4, .int .i64 12, .string (⟨#[]⟩ : ByteArray)]) ?_ 2 _ rfl; (with_reducible repeat (first | refine qg ?_ _ | refine qi ?_ | refine qf ?_ _)); refine zu (cs := #[.string x4_4, .int .i64 0, .string (⟨#[]⟩ : ByteArray)]) ?_ 1 _ rfl; (with_reducible repeat (first | refine qg ?_ _ | refine qi ?_ | refine qf ?_ _)); refine zu (cs := #[.string (⟨#[]⟩ : ByteArray), .int .i64 0, .string (⟨#[]⟩ : ByteArray)]) ?_ 0 _ rfl; (with_reducible repeat (first | refine qg ?_ _ | refine qi ?_ | refine qf ?_ _)); exact BK143.out) Tryz.underlying40 rfl yj) rfl ?_
           exact ⟨by first | rfl | (simp [qu, qt] <;> rfl) | (simp [*, qu, qt] <;> rfl), by repeat (first | (with_reducible first | exact HB.out | apply qc | apply qb | apply qd | refine qe ?_ GE143.out) | exact HB.out)⟩
 ·replace c3 := Bool.eq_false_iff.mpr c3
  subst c3
  have H1 : (some ((⟨#[]⟩ : ByteArray), 0, (⟨#[]⟩ : ByteArray), false)) = some (r1, r2, r3, r4) := by rw [if_neg (show ¬ (false = true) by decide)] at H; exact H
  clear H
  have H := H1
  clear H1
  simp only [Option.some.injEq, Prod.mk.injEq] at H
  obtain ⟨rfl, rfl, rfl, rfl⟩ := H
  go_enter Tryz.func57, Tryz.ntmps57
  go_wp2_with (first | ((with_reducible refine zl (N := 2) rfl ?_); refine zo ?hg (N := 2) ?hd (cs := #[.string (⟨#[]⟩ : ByteArray), .int .i64 0, .string (⟨#[]⟩ : ByteArray)]) (t := 40) ?hr ?_; (case hd => rfl); (case hg => rfl); (case hr => first | (go_simp; done) | (go_simp; rfl)); intro gb143 hg w38 hbox hb; have n0_ := qa.mk (qp cu hb); have n1_ := qa.mk (hbox); have n2_ := qa.mk ((by rw [hg]; exact (qr cu) : w.heap.size ≤ gb143)); have n3_ := qa.mk ((by rw [hg]; exact (qr cu) : w.heap.size ≤ gb143)); clear HB; have HB := n0_; have BK143 := n1_; have GW143 := n2_; have GE143 := n3_; clear n0_ n1_ n2_ n3_; clear hb hbox hg) | ((with_reducible refine zn (f := 90) rfl ?_); refine kd (some 13) rfl rfl Tryz.func90 yj rfl #[.string a0, .string (⟨#[61]⟩ : ByteArray)] rfl yc ?_; (with_reducible refine (strings_Cut.calls a0 (⟨#[61]⟩ : ByteArray) t144 t145 false _ ?side1 A2.out).mono ?_); (case side1 => exact LibHeld.below HG.out ym); rintro e w39 ⟨rfl, hb⟩; refine ⟨_, rfl, ?_⟩; have n0_ := qa.mk (q9 (g := gb143) (o := .cells #[.string (⟨#[]⟩ : ByteArray), .int .i64 0, .string (⟨#[]⟩ : ByteArray)] 40 (0, 0)) yx hb); have n1_ := qa.mk (qp ym hb); clear BK143; clear HB; have BK143 := n0_; have HB := n1_; clear n0_ n1_; (try clear hb); (try clear hb2); (try clear hk); (try clear hi); have hcz40_0 : w39.cell? ⟨gb143, 0, none⟩ = some (.string (⟨#[]⟩ : ByteArray)) := (ql BK143.out 0).trans rfl; have hcz40_1 : w39.cell? ⟨gb143, 1, none⟩ = some (.int .i64 0) := (ql BK143.out 1).trans rfl; have hcz40_2 : w39.cell? ⟨gb143, 2, none⟩ = some (.string (⟨#[]⟩ : ByteArray)) := (ql BK143.out 2).trans rfl; have hfz40_0 := qo BK143.out 0; have hfz40_1 := qo BK143.out 1; have hfz40_2 := qo BK143.out 2))
  refine bodyPost_ret (results_ct rfl _ _ gb143 40 #[.string (⟨#[]⟩ : ByteArray), .int .i64 0, .string (⟨#[]⟩ : ByteArray)] (0, 0) _ rfl (by (with_reducible repeat (first | refine qg ?_ _ | refine qi ?_ | refine qf ?_ _)); refine zu (cs := #[.string (⟨#[]⟩ : ByteArray), .int .i64 0, .string (⟨#[]⟩ : ByteArray)]) ?_ 2 _ rfl; (with_reducible repeat (first | refine qg ?_ _ | refine qi ?_ | refine qf ?_ _)); refine zu (cs := #[.string (⟨#[]⟩ : ByteArray), .int .i64 0, .string (⟨#[]⟩ : ByteArray)]) ?_ 1 _ rfl; (with_reducible repeat (first | refine qg ?_ _ | refine qi ?_ | refine qf ?_ _)); refine zu (cs := #[.string (⟨#[]⟩ : ByteArray), .int .i64 0, .string (⟨#[]⟩ : ByteArray)]) ?_ 0 _ rfl; (with_reducible repeat (first | refine qg ?_ _ | refine qi ?_ | refine qf ?_ _)); exact BK143.out) Tryz.underlying40 rfl yj) rfl ?_
  exact ⟨by first | rfl | (simp [qu, qt] <;> rfl) | (simp [*, qu, qt] <;> rfl), by repeat (first | (with_reducible first | exact HB.out | apply qc | apply qb | apply qd | refine qe ?_ GE143.out) | exact HB.out)⟩
end Go.Proofs.YthdoohfdminfgaaGreatDoor.C
end
