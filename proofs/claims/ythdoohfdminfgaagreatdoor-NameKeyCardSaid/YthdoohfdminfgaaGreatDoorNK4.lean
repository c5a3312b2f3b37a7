/- Words, walks and plain laws that the claim rests on, gathered. -/
import Derived.Test.YthdoohfdminfgaaGreatDoorProg
import Derived.WalkSpells
import Derived.Below
import Derived.Deep.Draws
import Derived.Deep.AppendLies
import Derived.Maps.AppendAt
import Derived.OwnWalk
import Derived.Laws.BytesArg
import Derived.Laws.MakeOwn
import Derived.Laws.OwnMore
import Derived.Deep.OwnRows
import Derived.Tactics
import Derived.Lib.ConvBytes
import Derived.Laws.Slices
import Derived.WalkKit
import Derived.KernelRfl
import Derived.RowKit3
import Derived.Deep.LoopGhost
import Derived.Deep.QuietTactic
import Derived.BigQuiet
import Derived.WideLaws
import Derived.Deep.DeepCutAuto
import Derived.Deep.CutBlock
import Derived.Deep.RegionHeld3
import Derived.Laws.Rows
import Derived.Lib.AppendStr
import Derived.ArgAppend
import Derived.Laws.IdiomCopy
import Derived.OrdersHeld
import Derived.Laws.BitsLemmas
import Derived.RowKit
import Derived.WalkLawsBesides
import Derived.Shelf.Strings.Builder1
import Derived.Shelf.Strings.Builder2
import Derived.Shelf.Strings.OnBuilder
import Derived.Shelf.Small.Bits
import Derived.Shelf.Small.Strs
import Derived.Shelf.Strings.BuilderF
import Derived.Shelf.Strings.BuilderK
import Derived.Shelf.Utf8.RuneCount
import Derived.Shelf.Strings.Builder2Cap
import Derived.Shelf.Strconv.Itoa0
import Derived.Shelf.Strconv.Itoa1
import Derived.Shelf.LaysM
import Derived.Shelf.Strconv.Itoa2
import Derived.Shelf.Strconv.Itoa3
import Derived.Shelf.Strings.Search1
import Derived.Shelf.Strings.Search2
import Derived.Shelf.Strings.Search3
import Derived.Shelf.Strings.Cut
import Derived.Shelf.Strings.Count
import Derived.Shelf.Strings.Shaped
import Derived.Shelf.Sort.Plain
import Derived.Ground.GgsProg
import Derived.Shelf.GgSortFunc.Insertion
import Derived.Shelf.GgSortFunc.Small
import Derived.Shelf.GgSortFunc.InsertionK
import Derived.Shelf.GgSortFunc.SmallK
import Derived.Shelf.GgSortFunc.Tiny
import Derived.Shelf.GgSortFunc.Compose
import Derived.Shelf.GgSortFunc.LotD
import Derived.Shelf.GgSortFunc.Pivot
import Derived.Shelf.GgSortFunc.Partition
import Derived.Shelf.GgSortFunc.Pdq
import Derived.Shelf.GgSortFunc.Whole
import Derived.Shelf.Strings.Prefix
import Derived.Shelf.Strings.Split
import Derived.Shelf.Strings.SplitShaped
import Derived.Shelf.Unicode.Decode
import Derived.Shelf.Strings.RuneCount
import Derived.Shelf.Strings.Explode
import Derived.Shelf.Unicode.DecodeSlow
import Derived.Shelf.Unicode.DecodeAny
import Derived.Shelf.Strings.BuilderCap
import Derived.Shelf.Slices.In.SortNone
import Derived.Shelf.Slices.In.SortNone2
import Derived.Shelf.SlSortFunc.Xorshift
import Derived.Shelf.SlSortFuncK.ComposeK
import Derived.Shelf.SlSortFuncK.SiftDownK
import Derived.Shelf.SlSortFuncK.HeapSortK
import Derived.Shelf.SlSortFuncK.PartialInsertionK
import Derived.Shelf.SlSortFuncK.LotDK
import Derived.Shelf.SlSortFuncK.PivotK
import Derived.Shelf.SlSortFuncK.PartitionK
import Derived.Shelf.SlSortFunc.SiftDown
import Derived.Shelf.SlSortFunc.HeapSort
import Derived.Shelf.SlSortFunc.PartialInsertion
import Derived.Shelf.SlSortFuncK.PdqK
import Derived.Shelf.SlSortFuncK.WholeK
import Derived.Laws.StructEq
import Derived.Test.YthdoohfdminfgaaGreatDoorNK0
import Derived.Test.YthdoohfdminfgaaGreatDoorNK1
import Derived.Test.YthdoohfdminfgaaGreatDoorNK2
import Derived.Test.YthdoohfdminfgaaGreatDoorNK3
import Derived.Test.YthdoohfdminfgaaGreatDoorNKc
namespace Go.Proofs.YthdoohfdminfgaaGreatDoorW.PrintLast
end Go.Proofs.YthdoohfdminfgaaGreatDoorW.PrintLast
namespace Go.Proofs.YthdoohfdminfgaaGreatDoorW.PrintMore
end Go.Proofs.YthdoohfdminfgaaGreatDoorW.PrintMore
namespace Go.Proofs.YthdoohfdminfgaaGreatDoorW.PrintWords
end Go.Proofs.YthdoohfdminfgaaGreatDoorW.PrintWords
section
namespace Go.Proofs.YthdoohfdminfgaaGreatDoor.C
open Go.RowKit Go.Proofs.YthdoohfdminfgaaGreatDoorW.PrintWords Go.Proofs.YthdoohfdminfgaaGreatDoorW.PrintLast Go.Proofs.YthdoohfdminfgaaGreatDoorW.PrintMore
attribute [local go_sem] xa z7 xq xr zx zy xc z8
set_option linter.unusedVariables false
set_option linter.unusedSimpArgs false
def z6.l0 : Nat → List (List (S40)) → Int → Int → Option (Int)
 | 0, _, _, _ => none
 | k + 1, x11, x12, x13 => if x13 < x12 then (if 0 ≤ x13 then (if x13 < (x11.length : Int) then ((qw.f k (xx x11 x13)).bind fun t127 => (if t127 = 0 then (z6.l0 k x11 x12 (wrap64 (x13 + 1))) else (some t127))) else (none)) else (none)) else (some 0)
def z6.f (k : Nat) (l0_0 : List (List (S40))) : Option (Int) := if (l0_0.length : Int) > 8 then (some 2) else (z6.l0 k l0_0 (l0_0.length : Int) 0)
theorem z6.xi : ∀ k, (∀ y0 y1 y2, LeO (z6.l0 k y0 y1 y2) (z6.l0 (k + 1) y0 y1 y2))
 | 0 => fun _ _ _ r h => by simp [z6.l0] at h
 | k + 1 => by
  have ih0 := z6.xi k
  ·intro y0 y1 y2
   unfold z6.l0
   repeat' first
   | (with_reducible exact ih0 _ _ _)
   | (with_reducible exact qw.mono _ _)
   | (with_reducible exact LeO.refl _)
   | (with_reducible exact LeO.none _)
   | (with_reducible refine LeO.ite ?_ ?_)
   | (with_reducible refine LeO.bind ?_ (fun _ => ?_))
theorem z6.mono : ∀ a0 k, LeO (z6.f k a0) (z6.f (k + 1) a0) := by
 intro a0 k
 have ih0 := z6.xi k
 unfold z6.f
 repeat' first
   | (with_reducible exact ih0 _ _ _)
   | (with_reducible exact qw.mono _ _)
   | (with_reducible exact LeO.refl _)
   | (with_reducible exact LeO.none _)
   | (with_reducible refine LeO.ite ?_ ?_)
   | (with_reducible refine LeO.bind ?_ (fun _ => ?_))
set_option maxHeartbeats 8000000 in
set_option maxRecDepth 100000 in
theorem z6.calls (k : Nat) (A0_0 : Option Addr) (c0_0 : Nat) (l0_0 : List (List (S40))) (r : Int) (w : World) (hG : LibHeld w) (hr0_0 : Kd.C (Kd.slice 40 k40) w A0_0 l0_0.length l0_0) (hc0_0 : l0_0.length ≤ c0_0) (h : z6.f k l0_0 = some r) :
  Calls Tryz.prog 21 #[.agg #[.slice A0_0 l0_0.length c0_0]] w fun e w' => e = .returned (.int .i64 r) ∧ Below w.heap.size w w' := by
 have hu31 := Tryz.underlying31
 have HG := qa.mk hG
 clear hG
 have HR0_0 := qa.mk hr0_0
 have HC0_0 := qa.mk hc0_0
 clear hr0_0 hc0_0
 have HB := qa.mk (Below.refl w.heap.size w)
 have H : (if (l0_0.length : Int) > 8 then (some 2) else (z6.l0 k l0_0 (l0_0.length : Int) 0)) = some r := h
 clear h
 by_cases c2 : (l0_0.length : Int) > 8
 ·rw [if_pos c2] at H
  have c2b0 : decide (8 < (l0_0.length : Int)) = true := decide_eq_true c2
  have c2b1 : decide (8 < l0_0.length) = true := decide_eq_true yg
  clear c2
  obtain rfl := Option.some.inj H
  go_enter Tryz.func21, Tryz.ntmps21
  go_wp2_with (first | ((with_reducible refine zl (N := 1) rfl ?_); refine zo ?hg (N := 1) ?hd (cs := #[.slice A0_0 l0_0.length c0_0]) (t := 31) ?hr ?_; (case hd => rfl); (case hg => rfl); (case hr => first | (go_simp; done) | (go_simp; rfl)); intro gb125 hg w3 hbox hb; have n0_ := qa.mk (qp cu hb); have n1_ := qa.mk (hbox); have n2_ := qa.mk ((by rw [hg]; exact (qr cu) : w.heap.size ≤ gb125)); have n3_ := qa.mk ((by rw [hg]; exact (qr cu) : w.heap.size ≤ gb125)); clear HB; have HB := n0_; have BK125 := n1_; have GW125 := n2_; have GE125 := n3_; clear n0_ n1_ n2_ n3_; clear hb hbox hg; have hcz4_0 : w3.cell? ⟨gb125, 0, none⟩ = some (.slice A0_0 l0_0.length c0_0) := (ql BK125.out 0).trans rfl; have hfz4_0 := qo BK125.out 0))
  go_ret
  exact ⟨by first | rfl | (simp [qu, qt] <;> rfl) | (simp [*, qu, qt] <;> rfl), by repeat (first | (with_reducible first | exact HB.out | apply qc | apply qb | apply qd | refine qe ?_ GE125.out) | exact HB.out)⟩
 ·rw [if_neg c2] at H
  have c2b0 : decide (8 < (l0_0.length : Int)) = false := decide_eq_false c2
  have c2b1 : decide (8 < l0_0.length) = false := decide_eq_false yg
  clear c2
  have H' := qa.mk H
  clear H
  go_enter Tryz.func21, Tryz.ntmps21
  go_wp2_with (first | ((with_reducible refine zl (N := 1) rfl ?_); refine zo ?hg (N := 1) ?hd (cs := #[.slice A0_0 l0_0.length c0_0]) (t := 31) ?hr ?_; (case hd => rfl); (case hg => rfl); (case hr => first | (go_simp; done) | (go_simp; rfl)); intro gb125 hg w5 hbox hb; have n0_ := qa.mk (qp cu hb); have n1_ := qa.mk (hbox); have n2_ := qa.mk ((by rw [hg]; exact (qr cu) : w.heap.size ≤ gb125)); have n3_ := qa.mk ((by rw [hg]; exact (qr cu) : w.heap.size ≤ gb125)); clear HB; have HB := n0_; have BK125 := n1_; have GW125 := n2_; have GE125 := n3_; clear n0_ n1_ n2_ n3_; clear hb hbox hg; have hcz6_0 : w5.cell? ⟨gb125, 0, none⟩ = some (.slice A0_0 l0_0.length c0_0) := (ql BK125.out 0).trans rfl; have hfz6_0 := qo BK125.out 0))
  go_loopg [13] k (fun kq v13 w' => ∃ (x13_1 : Int), v13 = .int .i64 x13_1 ∧ qa (z6.l0 kq l0_0 (l0_0.length : Int) x13_1 = some r) ∧ qa (kq ≤ k) ∧ qa (w'.heap[gb125]? = some (.cells #[(.slice A0_0 l0_0.length c0_0)] 31 (0, 0))) ∧ qa (Below w.heap.size w w'))
  case atStart => exact ⟨(0), yf, H', ⟨Nat.le_refl _⟩, ⟨by (with_reducible repeat (first | refine qg ?_ _ | refine qi ?_ | refine qf ?_ _)); exact BK125.out⟩, ⟨by repeat (first | (with_reducible first | exact HB.out | apply qc | apply qb | apply qd | refine qe ?_ GE125.out) | exact HB.out)⟩⟩
  case round =>
   clear H'
   (try clear c2); (try clear c2b0); (try clear c2b1); (try clear p2); (try clear hcz4_0); (try clear hcz6_0); (try clear hfz4_0); try clear hfz6_0
   obtain ⟨x13_1, rfl, HA, HK1, BK125, HB⟩ := hrel
   cases gk with
   | zero => exact absurd HA.out (by simp [z6.l0])
   | succ k1 =>
    have H := HA.out
    clear HA
    simp only [z6.l0] at H
    by_cases c7 : x13_1 < (l0_0.length : Int)
    ·rw [if_pos c7] at H
     have c7b0 : decide (x13_1 < (l0_0.length : Int)) = true := decide_eq_true c7
     clear c7
     by_cases c8 : 0 ≤ x13_1
     ·rw [if_pos c8] at H
      have c8b0 : decide (0 ≤ x13_1) = true := decide_eq_true c8
      clear c8
      by_cases c9 : x13_1 < (l0_0.length : Int)
      ·rw [if_pos c9] at H
       have c9b0 : decide (x13_1 < (l0_0.length : Int)) = true := decide_eq_true c9
       clear c9
       replace H := Option.bind_eq_some_iff.mp H
       obtain ⟨t127, A100, H⟩ := H
       replace H : (if t127 = 0 then (z6.l0 k1 l0_0 (l0_0.length : Int) (wrap64 (x13_1 + 1))) else (some t127)) = some r := H
       have A10 := qa.mk A100
       clear A100
       by_cases c11 : t127 = 0
       ·rw [if_pos c11] at H
        have c11b0 : (t127 == 0) = true := beq_iff_eq.mpr c11
        have c11b1 : (t127 != 0) = false := bne_eq_false_iff_eq.mpr c11
        clear c11
        have H' := qa.mk H
        clear H
        have p126 : 0 ≤ (x13_1 : Int) := of_decide_eq_true cz
        have q126 : x13_1 < (l0_0.length : Int) := of_decide_eq_true cz
        obtain ⟨ad126, A126_0, c126_0, e126, hx126_0, hl126_0, hi126_0⟩ := at_L5 HR0_0.out x13_1 p126 q126
        cases e126
        replace hx126_0 := (HB.out.cell (World.block_lt_of_cell? w _ hx126_0)).trans hx126_0
        have HR126_0 := qa.mk hi126_0
        have HC126_0 := qa.mk hl126_0
        clear hi126_0 hl126_0
        replace p126 := eq_true p126
        replace q126 := eq_true q126
        go_wp2_with (first | ((with_reducible refine zn (f := 47) rfl ?_); refine kd (some 18) rfl rfl Tryz.func47 yj rfl #[.slice A126_0 (xx l0_0 x13_1).length c126_0] rfl yc ?_; (with_reducible refine (qw.calls k1 _ _ (xx l0_0 x13_1) t127 _ ?side3 ?side1 ?side2 A10.out).mono ?_); (case side1 => repeat (first | exact (Kd.ki HR126_0.out HB.out) | (with_reducible refine Kd.kr ?_ _) | (with_reducible refine Kd.ks ?_ _) | (with_reducible refine Kd.ky ?_))); (case side2 => exact HC126_0.out); (case side3 => exact LibHeld.below HG.out cab); rintro e w12 ⟨rfl, hb⟩; refine ⟨_, rfl, ?_⟩; have n0_ := qa.mk (q9 (g := gb125) (o := .cells #[.slice (some ad126) l0_0.length c0_0] 31 (0, 0)) (by (with_reducible repeat (first | refine qg ?_ _ | refine qi ?_ | refine qf ?_ _)); exact BK125.out) hb); have n1_ := qa.mk (qp cab hb); clear BK125; clear HB; have BK125 := n0_; have HB := n1_; clear n0_ n1_; (try clear hb); (try clear hb2); (try clear hk); (try clear hi)))
        go_roundg k1
        case measure => have := HK1.out; omega
        case rel => exact ⟨(wrap64 (x13_1 + 1)), yf, H', ⟨by have := HK1.out; omega⟩, ⟨by (with_reducible repeat (first | refine qg ?_ _ | refine qi ?_ | refine qf ?_ _)); exact BK125.out⟩, ⟨by repeat (first | (with_reducible first | exact HB.out | apply qc | apply qb | apply qd | refine qe ?_ GE125.out) | exact HB.out)⟩⟩
       ·rw [if_neg c11] at H
        have c11b0 : (t127 == 0) = false := beq_eq_false_iff_ne.mpr c11
        have c11b1 : (t127 != 0) = true := bne_iff_ne.mpr c11
        obtain rfl := Option.some.inj H
        have p126 : 0 ≤ (x13_1 : Int) := of_decide_eq_true cz
        have q126 : x13_1 < (l0_0.length : Int) := of_decide_eq_true cz
        obtain ⟨ad126, A126_0, c126_0, e126, hx126_0, hl126_0, hi126_0⟩ := at_L5 HR0_0.out x13_1 p126 q126
        cases e126
        replace hx126_0 := (HB.out.cell (World.block_lt_of_cell? w _ hx126_0)).trans hx126_0
        have HR126_0 := qa.mk hi126_0
        have HC126_0 := qa.mk hl126_0
        clear hi126_0 hl126_0
        replace p126 := eq_true p126
        replace q126 := eq_true q126
        go_wp2_with (first | ((with_reducible refine zn (f := 47) rfl ?_); refine kd (some 18) rfl rfl Tryz.func47 yj rfl #[.slice A126_0 (xx l0_0 x13_1).length c126_0] rfl yc ?_; (with_reducible refine (qw.calls k1 _ _ (xx l0_0 x13_1) t127 _ ?side3 ?side1 ?side2 A10.out).mono ?_); (case side1 => repeat (first | exact (Kd.ki HR126_0.out HB.out) | (with_reducible refine Kd.kr ?_ _) | (with_reducible refine Kd.ks ?_ _) | (with_reducible refine Kd.ky ?_))); (case side2 => exact HC126_0.out); (case side3 => exact LibHeld.below HG.out cab); rintro e w13 ⟨rfl, hb⟩; refine ⟨_, rfl, ?_⟩; have n0_ := qa.mk (q9 (g := gb125) (o := .cells #[.slice (some ad126) l0_0.length c0_0] 31 (0, 0)) (by (with_reducible repeat (first | refine qg ?_ _ | refine qi ?_ | refine qf ?_ _)); exact BK125.out) hb); have n1_ := qa.mk (qp cab hb); clear BK125; clear HB; have BK125 := n0_; have HB := n1_; clear n0_ n1_; (try clear hb); (try clear hb2); (try clear hk); (try clear hi)))
        go_ret
        exact ⟨by first | rfl | (simp [qu, qt] <;> rfl) | (simp [*, qu, qt] <;> rfl), by repeat (first | (with_reducible first | exact HB.out | apply qc | apply qb | apply qd | refine qe ?_ GE125.out) | exact HB.out)⟩
      ·rw [if_neg c9] at H
       exact absurd H yt
     ·rw [if_neg c8] at H
      exact absurd H yt
    ·rw [if_neg c7] at H
     have c7b0 : decide (x13_1 < (l0_0.length : Int)) = false := decide_eq_false c7
     clear c7
     obtain rfl := Option.some.inj H
     go_wp2
     go_ret
     exact ⟨by first | rfl | (simp [qu, qt] <;> rfl) | (simp [*, qu, qt] <;> rfl), by repeat (first | (with_reducible first | exact HB.out | apply qc | apply qb | apply qd | refine qe ?_ GE125.out) | exact HB.out)⟩
def dname_shorts.f  : Option ((List (S83))) := some (([(⟨(⟨#[67, 78]⟩ : ByteArray), (⟨#[50, 46, 53, 46, 52, 46, 51]⟩ : ByteArray)⟩ : S83), (⟨(⟨#[67]⟩ : ByteArray), (⟨#[50, 46, 53, 46, 52, 46, 54]⟩ : ByteArray)⟩ : S83), (⟨(⟨#[76]⟩ : ByteArray), (⟨#[50, 46, 53, 46, 52, 46, 55]⟩ : ByteArray)⟩ : S83), (⟨(⟨#[79]⟩ : ByteArray), (⟨#[50, 46, 53, 46, 52, 46, 49, 48]⟩ : ByteArray)⟩ : S83), (⟨(⟨#[79, 85]⟩ : ByteArray), (⟨#[50, 46, 53, 46, 52, 46, 49, 49]⟩ : ByteArray)⟩ : S83), (⟨(⟨#[68, 67]⟩ : ByteArray), (⟨#[48, 46, 57, 46, 50, 51, 52, 50, 46, 49, 57, 50, 48, 48, 51, 48, 48, 46, 49, 48, 48, 46, 49, 46, 50, 53]⟩ : ByteArray)⟩ : S83), (⟨(⟨#[69]⟩ : ByteArray), (⟨#[49, 46, 50, 46, 56, 52, 48, 46, 49, 49, 51, 53, 52, 57, 46, 49, 46, 57, 46, 49]⟩ : ByteArray)⟩ : S83)] : List (S83)))
set_option maxHeartbeats 8000000 in
set_option maxRecDepth 100000 in
theorem dname_shorts.calls  (r : List (S83)) (w : World) (h : dname_shorts.f  = some r) :
  Calls Tryz.prog 49 #[] w fun e w' => ∃ v0_ : Value, e = .returned (v0_) ∧ Kd.R k83 83 w' w.heap.size (fun _ => True) v0_ r ∧ Below w.heap.size w w' := by
 have hu83 := Tryz.underlying83
 have HB := qa.mk (Below.refl w.heap.size w)
 have H : (some (([(⟨(⟨#[67, 78]⟩ : ByteArray), (⟨#[50, 46, 53, 46, 52, 46, 51]⟩ : ByteArray)⟩ : S83), (⟨(⟨#[67]⟩ : ByteArray), (⟨#[50, 46, 53, 46, 52, 46, 54]⟩ : ByteArray)⟩ : S83), (⟨(⟨#[76]⟩ : ByteArray), (⟨#[50, 46, 53, 46, 52, 46, 55]⟩ : ByteArray)⟩ : S83), (⟨(⟨#[79]⟩ : ByteArray), (⟨#[50, 46, 53, 46, 52, 46, 49, 48]⟩ : ByteArray)⟩ : S83), (⟨(⟨#[79, 85]⟩ : ByteArray), (⟨#[50, 46, 53, 46, 52, 46, 49, 49]⟩ : ByteArray)⟩ : S83), (⟨(⟨#[68, 67]⟩ : ByteArray), (⟨#[48, 46, 57, 46, 50, 51, 52, 50, 46, 49, 57, 50, 48, 48, 51, 48, 48, 46, 49, 48, 48, 46, 49, 46, 50, 53]⟩ : ByteArray)⟩ : S83), (⟨(⟨#[69]⟩ : ByteArray), (⟨#[49, 46, 50, 46, 56, 52, 48, 46, 49, 49, 51, 53, 52, 57, 46, 49, 46, 57, 46, 49]⟩ : ByteArray)⟩ : S83)] : List (S83)))) = some r := h
 clear h
 obtain ⟨y128, hy128⟩ : ∃ y_ : List (S83), y_ = (([(⟨(⟨#[67, 78]⟩ : ByteArray), (⟨#[50, 46, 53, 46, 52, 46, 51]⟩ : ByteArray)⟩ : S83), (⟨(⟨#[67]⟩ : ByteArray), (⟨#[50, 46, 53, 46, 52, 46, 54]⟩ : ByteArray)⟩ : S83), (⟨(⟨#[76]⟩ : ByteArray), (⟨#[50, 46, 53, 46, 52, 46, 55]⟩ : ByteArray)⟩ : S83), (⟨(⟨#[79]⟩ : ByteArray), (⟨#[50, 46, 53, 46, 52, 46, 49, 48]⟩ : ByteArray)⟩ : S83), (⟨(⟨#[79, 85]⟩ : ByteArray), (⟨#[50, 46, 53, 46, 52, 46, 49, 49]⟩ : ByteArray)⟩ : S83), (⟨(⟨#[68, 67]⟩ : ByteArray), (⟨#[48, 46, 57, 46, 50, 51, 52, 50, 46, 49, 57, 50, 48, 48, 51, 48, 48, 46, 49, 48, 48, 46, 49, 46, 50, 53]⟩ : ByteArray)⟩ : S83), (⟨(⟨#[69]⟩ : ByteArray), (⟨#[49, 46, 50, 46, 56, 52, 48, 46, 49, 49, 51, 53, 52, 57, 46, 49, 46, 57, 46, 49]⟩ : ByteArray)⟩ : S83)] : List (S83))) := ⟨_, rfl⟩
 replace H : (some y128) = some r := by first | (rw [hy128]; with_reducible exact H) | (have H2_ := (Option.bind_some _ _).symm.trans H; rw [hy128]; with_reducible exact H2_) | (have H2_ := (Option.bind_some _ _).symm.trans H; with_reducible exact H2_) | with_reducible exact H | (rw [hy128]; exact H) | exact H
 have Ny128 := qa.mk hy128
 clear hy128
 obtain rfl := Option.some.inj H
 go_enter Tryz.func49, Tryz.ntmps49
 go_wp2_with (first | ((with_reducible refine zl (N := 8) rfl ?_); refine Kd.R_lit k83 _ 83 ?hg (N := 8) ?hd (xs := ([(⟨(⟨#[67, 78]⟩ : ByteArray), (⟨#[50, 46, 53, 46, 52, 46, 51]⟩ : ByteArray)⟩ : S83), (⟨(⟨#[67]⟩ : ByteArray), (⟨#[50, 46, 53, 46, 52, 46, 54]⟩ : ByteArray)⟩ : S83), (⟨(⟨#[76]⟩ : ByteArray), (⟨#[50, 46, 53, 46, 52, 46, 55]⟩ : ByteArray)⟩ : S83), (⟨(⟨#[79]⟩ : ByteArray), (⟨#[50, 46, 53, 46, 52, 46, 49, 48]⟩ : ByteArray)⟩ : S83), (⟨(⟨#[79, 85]⟩ : ByteArray), (⟨#[50, 46, 53, 46, 52, 46, 49, 49]⟩ : ByteArray)⟩ : S83), (⟨(⟨#[68, 67]⟩ : ByteArray), (⟨#[48, 46, 57, 46, 50, 51, 52, 50, 46, 49, 57, 50, 48, 48, 51, 48, 48, 46, 49, 48, 48, 46, 49, 46, 50, 53]⟩ : ByteArray)⟩ : S83), (⟨(⟨#[69]⟩ : ByteArray), (⟨#[49, 46, 50, 46, 56, 52, 48, 46, 49, 49, 51, 53, 52, 57, 46, 49, 46, 57, 46, 49]⟩ : ByteArray)⟩ : S83)] : List (S83))) (inner := [.string (⟨#[67, 78]⟩ : ByteArray), .string (⟨#[50, 46, 53, 46, 52, 46, 51]⟩ : ByteArray), .string (⟨#[67]⟩ : ByteArray), .string (⟨#[50, 46, 53, 46, 52, 46, 54]⟩ : ByteArray), .string (⟨#[76]⟩ : ByteArray), .string (⟨#[50, 46, 53, 46, 52, 46, 55]⟩ : ByteArray), .string (⟨#[79]⟩ : ByteArray), .string (⟨#[50, 46, 53, 46, 52, 46, 49, 48]⟩ : ByteArray), .string (⟨#[79, 85]⟩ : ByteArray), .string (⟨#[50, 46, 53, 46, 52, 46, 49, 49]⟩ : ByteArray), .string (⟨#[68, 67]⟩ : ByteArray), .string (⟨#[48, 46, 57, 46, 50, 51, 52, 50, 46, 49, 57, 50, 48, 48, 51, 48, 48, 46, 49, 48, 48, 46, 49, 46, 50, 53]⟩ : ByteArray), .string (⟨#[69]⟩ : ByteArray), .string (⟨#[49, 46, 50, 46, 56, 52, 48, 46, 49, 49, 51, 53, 52, 57, 46, 49, 46, 57, 46, 49]⟩ : ByteArray)]) (ok := fun _ => True) (okp := fun _ => True) ?hr ?hp (fun _ hk => hk) trivial (Below.refl _ _) (Nat.le_refl _) yt ?_; (case hd => rfl); (case hg => rfl); (case hr => first | (go_simp; done) | (go_simp; rfl)); (case hp => exact (Reps.c2 (show Kd.M k83 _ _ _ (⟨(⟨#[67, 78]⟩ : ByteArray), (⟨#[50, 46, 53, 46, 52, 46, 51]⟩ : ByteArray)⟩ : S83) [.string (⟨#[67, 78]⟩ : ByteArray), .string (⟨#[50, 46, 53, 46, 52, 46, 51]⟩ : ByteArray)] from (k83_mkM _ _ _ (⟨(⟨#[67, 78]⟩ : ByteArray), (⟨#[50, 46, 53, 46, 52, 46, 51]⟩ : ByteArray)⟩ : S83) )) (Reps.c2 (show Kd.M k83 _ _ _ (⟨(⟨#[67]⟩ : ByteArray), (⟨#[50, 46, 53, 46, 52, 46, 54]⟩ : ByteArray)⟩ : S83) [.string (⟨#[67]⟩ : ByteArray), .string (⟨#[50, 46, 53, 46, 52, 46, 54]⟩ : ByteArray)] from (k83_mkM _ _ _ (⟨(⟨#[67]⟩ : ByteArray), (⟨#[50, 46, 53, 46, 52, 46, 54]⟩ : ByteArray)⟩ : S83) )) (Reps.c2 (show Kd.M k83 _ _ _ (⟨(⟨#[76]⟩ : ByteArray), (⟨#[50, 46, 53, 46, 52, 46, 55]⟩ : ByteArray)⟩ : S83) [.string (⟨#[76]⟩ : ByteArray), .string (⟨#[50, 46, 53, 46, 52, 46, 55]⟩ : ByteArray)] from (k83_mkM _ _ _ (⟨(⟨#[76]⟩ : ByteArray), (⟨#[50, 46, 53, 46, 52, 46, 55]⟩ : ByteArray)⟩ : S83) )) (Reps.c2 (show Kd.M k83 _ _ _ (⟨(⟨#[79]⟩ : ByteArray), (⟨#[50, 46, 53, 46, 52, 46, 49, 48]⟩ : ByteArray)⟩ : S83) [.string (⟨#[79]⟩ : ByteArray), .string (⟨#[50, 46, 53, 46, 52, 46, 49, 48]⟩ : ByteArray)] from (k83_mkM _ _ _ (⟨(⟨#[79]⟩ : ByteArray), (⟨#[50, 46, 53, 46, 52, 46, 49, 48]⟩ : ByteArray)⟩ : S83) )) (Reps.c2 (show Kd.M k83 _ _ _ (⟨(⟨#[79, 85]⟩ : ByteArray), (⟨#[50, 46, 53, 46, 52, 46, 49, 49]⟩ : ByteArray)⟩ : S83) [.string (⟨#[79, 85]⟩ : ByteArray), .string (⟨#[50, 46, 53, 46, 52, 46, 49, 49]⟩ : ByteArray)] from (k83_mkM _ _ _ (⟨(⟨#[79, 85]⟩ : ByteArray), (⟨#[50, 46, 53, 46, 52, 46, 49, 49]⟩ : ByteArray)⟩ : S83) )) (Reps.c2 (show Kd.M k83 _ _ _ (⟨(⟨#[68, 67]⟩ : ByteArray), (⟨#[48, 46, 57, 46, 50, 51, 52, 50, 46, 49, 57, 50, 48, 48, 51, 48, 48, 46, 49, 48, 48, 46, 49, 46, 50, 53]⟩ : ByteArray)⟩ : S83) [.string (⟨#[68, 67]⟩ : ByteArray), .string (⟨#[48, 46, 57, 46, 50, 51, 52, 50, 46, 49, 57, 50, 48, 48, 51, 48, 48, 46, 49, 48, 48, 46, 49, 46, 50, 53]⟩ : ByteArray)] from (k83_mkM _ _ _ (⟨(⟨#[68, 67]⟩ : ByteArray), (⟨#[48, 46, 57, 46, 50, 51, 52, 50, 46, 49, 57, 50, 48, 48, 51, 48, 48, 46, 49, 48, 48, 46, 49, 46, 50, 53]⟩ : ByteArray)⟩ : S83) )) (Reps.c2 (show Kd.M k83 _ _ _ (⟨(⟨#[69]⟩ : ByteArray), (⟨#[49, 46, 50, 46, 56, 52, 48, 46, 49, 49, 51, 53, 52, 57, 46, 49, 46, 57, 46, 49]⟩ : ByteArray)⟩ : S83) [.string (⟨#[69]⟩ : ByteArray), .string (⟨#[49, 46, 50, 46, 56, 52, 48, 46, 49, 49, 51, 53, 52, 57, 46, 49, 46, 57, 46, 49]⟩ : ByteArray)] from (k83_mkM _ _ _ (⟨(⟨#[69]⟩ : ByteArray), (⟨#[49, 46, 50, 46, 56, 52, 48, 46, 49, 49, 51, 53, 52, 57, 46, 49, 46, 57, 46, 49]⟩ : ByteArray)⟩ : S83) )) (Reps.none _ _))))))))); intro v129 w1 ho2 hb hg_ hnew_; clear hg_ hnew_; (first | rw [← Ny128.out] at ho2 | (simp only [Int.reduceToNat] at ho2; rw [← Ny128.out] at ho2)); have n0_ := qa.mk (Kd.R_lower ho2 (qr cu)); have n1_ := qa.mk (qp cu hb); clear HB; have HO130 := n0_; have HB := n1_; clear n0_ n1_; clear hb ho2))
 go_ret
 exact ⟨_, by first | rfl | (simp [qu, qt] <;> rfl) | (simp [*, qu, qt] <;> rfl), by (with_reducible repeat (first | apply Kd.zh | apply Kd.zg | apply Kd.zr)); exact HO130.out, by repeat (first | (with_reducible first | exact HB.out | apply qc | apply qb | apply qd) | exact HB.out)⟩
def strings_Cut.f (a0 a1 : ByteArray) : Option (ByteArray × ByteArray × Bool) := if a0.size < 4294967281 then some (⟨(Lib.cut a0.data.toList a1.data.toList).1.toArray⟩, ⟨(Lib.cut a0.data.toList a1.data.toList).2.1.toArray⟩, (Lib.cut a0.data.toList a1.data.toList).2.2) else none
theorem strings_Cut.calls (a0 : ByteArray) (a1 : ByteArray) (r1 : ByteArray) (r2 : ByteArray) (r3 : Bool) (w : World) (hG : LibHeld w) (h : strings_Cut.f a0 a1 = some (r1, r2, r3)) :
  Calls Tryz.prog 90 #[.string a0, .string a1] w fun e w' => e = .returned (.tuple #[.string r1, .string r2, .bool r3]) ∧ Below w.heap.size w w' := by
 unfold strings_Cut.f at h
 split at h
 ·rename_i hc
  obtain ⟨rfl, rfl, rfl⟩ := (by simpa using h : _ ∧ _ ∧ _)
  obtain ⟨m, hm⟩ := hG.maxLen
  refine (Tryz.strings_Cut a0 a1 m w hc hm).mono fun e w' ⟨he, n, hw⟩ => ⟨he, ?_⟩
  rw [hw]
  exact qb (Below.refl _ _) n
 ·exact absurd h yt
def kp.f (a0 : Int) : Option (Bool) := (kz.f a0).bind fun t131 => (if t131 = true then (some true) else ((strings_IndexByte.f (⟨#[32, 39, 40, 41, 45, 46, 47, 58, 63, 64, 95]⟩ : ByteArray) a0).bind fun t132 => (some (decide (t132 ≥ 0)))))
set_option maxHeartbeats 8000000 in
set_option maxRecDepth 100000 in
theorem kp.calls (a0 : Int) (r : Bool) (w : World) (h : kp.f a0 = some r) :
  Calls Tryz.prog 78 #[.int .u8 a0] w fun e w' => e = .returned (.bool r) ∧ qx w w' := by
 have H : ((kz.f a0).bind fun t131 => (if t131 = true then (some true) else ((strings_IndexByte.f (⟨#[32, 39, 40, 41, 45, 46, 47, 58, 63, 64, 95]⟩ : ByteArray) a0).bind fun t132 => (some (decide (t132 ≥ 0)))))) = some r := h
 clear h
 replace H := Option.bind_eq_some_iff.mp H
 obtain ⟨t131, A20, H⟩ := H
 replace H : (if t131 = true then (some true) else ((strings_IndexByte.f (⟨#[32, 39, 40, 41, 45, 46, 47, 58, 63, 64, 95]⟩ : ByteArray) a0).bind fun t132 => (some (decide (t132 ≥ 0))))) = some r := H
 have A2 := qa.mk A20
 clear A20
 by_cases c3 : t131 = true
 ·subst c3
  have H1 : (some true) = some r := by rw [if_pos rfl] at H; exact H
  clear H
  have H := H1
  clear H1
  obtain rfl := Option.some.inj H
  go_enter Tryz.func78, Tryz.ntmps78
  go_wp2_with (first | ((with_reducible refine zn (f := 105) rfl ?_); refine kd (some 4) rfl rfl Tryz.func105 yj rfl #[.int .u8 a0] rfl yc ?_; (with_reducible refine (kz.calls a0 true _ A2.out).mono ?_); rintro e w' ⟨rfl, ⟨nd, rfl⟩⟩; refine ⟨_, rfl, ?_⟩))
  go_ret
  exact ⟨by first | rfl | (simp; done) | (simp [*]; done), by repeat (first | exact qx.refl _ | apply qx.step)⟩
 ·replace c3 := Bool.eq_false_iff.mpr c3
  subst c3
  have H1 : ((strings_IndexByte.f (⟨#[32, 39, 40, 41, 45, 46, 47, 58, 63, 64, 95]⟩ : ByteArray) a0).bind fun t132 => (some (decide (t132 ≥ 0)))) = some r := by rw [if_neg (show ¬ (false = true) by decide)] at H; exact H
  clear H
  have H := H1
  clear H1
  replace H := Option.bind_eq_some_iff.mp H
  obtain ⟨t132, A40, H⟩ := H
  replace H : (some (decide (t132 ≥ 0))) = some r := H
  have A4 := qa.mk A40
  clear A40
  obtain rfl := Option.some.inj H
  go_enter Tryz.func78, Tryz.ntmps78
  go_wp2_with (first | ((with_reducible refine zn (f := 105) rfl ?_); refine kd (some 4) rfl rfl Tryz.func105 yj rfl #[.int .u8 a0] rfl yc ?_; (with_reducible refine (kz.calls a0 false _ A2.out).mono ?_); rintro e w' ⟨rfl, ⟨nd, rfl⟩⟩; refine ⟨_, rfl, ?_⟩) | (go_at_call 106; (with_reducible refine (strings_IndexByte.calls (⟨#[32, 39, 40, 41, 45, 46, 47, 58, 63, 64, 95]⟩ : ByteArray) a0 t132 _ A4.out).mono ?_); rintro e w' ⟨rfl, ⟨nd, rfl⟩⟩))
  go_ret
  exact ⟨by first | rfl | (simp; done) | (simp [*]; done), by repeat (first | exact qx.refl _ | apply qx.step)⟩
end Go.Proofs.YthdoohfdminfgaaGreatDoor.C
end
section
namespace Go.Proofs.YthdoohfdminfgaaGreatDoor.C
open Go.RowKit Go.Proofs.YthdoohfdminfgaaGreatDoorW.PrintWords Go.Proofs.YthdoohfdminfgaaGreatDoorW.PrintLast Go.Proofs.YthdoohfdminfgaaGreatDoorW.PrintMore
attribute [local go_sem] xa z7 xq xr zx zy xc z8
set_option linter.unusedVariables false
set_option linter.unusedSimpArgs false
mutual
def qz.l0 : Nat → ByteArray → List Int → Int → Option (ByteArray × Bool)
 | 0, _, _, _ => none
 | k + 1, x0, x4, x5 => if x5 < (x0.size : Int) then (if 0 ≤ x5 then ((kp.f (bt x0 x5)).bind fun t133 => (if t133 = true then (if x4.length < 140737488355328 then (qz.l0 k x0 (x4 ++ [bt x0 x5]) (wrap64 (x5 + 1))) else (none)) else (if (bt x0 x5) = 92 then (qz.j1 k x0 x4 x5 (decide ((wrap64 ((x0.size : Int) - x5)) < 3))) else (qz.j1 k x0 x4 x5 true)))) else (none)) else (some (strOfNums x4, true))
def qz.j1 : Nat → ByteArray → List Int → Int → Bool → Option (ByteArray × Bool)
 | 0, _, _, _, _ => none
 | k + 1, x0, x4, x5, x34 => if x34 = true then (some ((⟨#[]⟩ : ByteArray), false)) else (if 0 ≤ (wrap64 (x5 + 1)) then (if (wrap64 (x5 + 1)) < (x0.size : Int) then ((strings_IndexByte.f (⟨#[48, 49, 50, 51, 52, 53, 54, 55, 56, 57, 97, 98, 99, 100, 101, 102]⟩ : ByteArray) (bt x0 (wrap64 (x5 + 1)))).bind fun t137 => (if 0 ≤ (wrap64 (x5 + 2)) then (if (wrap64 (x5 + 2)) < (x0.size : Int) then ((strings_IndexByte.f (⟨#[48, 49, 50, 51, 52, 53, 54, 55, 56, 57, 97, 98, 99, 100, 101, 102]⟩ : ByteArray) (bt x0 (wrap64 (x5 + 2)))).bind fun t138 => (if t137 < 0 then (qz.j2 k x0 x4 x5 t137 t138 true) else (if t138 < 0 then (qz.j2 k x0 x4 x5 t137 t138 true) else ((kp.f ((Go.bits .or .i64 (wrap64 (t137 * 16)) t138) % 256)).bind fun t139 => (qz.j2 k x0 x4 x5 t137 t138 t139))))) else (none)) else (none))) else (none)) else (none))
def qz.j2 : Nat → ByteArray → List Int → Int → Int → Int → Bool → Option (ByteArray × Bool)
 | 0, _, _, _, _, _, _ => none
 | k + 1, x0, x4, x5, x6, x7, x58 => if x58 = true then (some ((⟨#[]⟩ : ByteArray), false)) else (if x4.length < 140737488355328 then (qz.l0 k x0 (x4 ++ [(Go.bits .or .i64 (wrap64 (x6 * 16)) x7) % 256]) (wrap64 ((wrap64 (x5 + 2)) + 1))) else (none))
end
def qz.f (k : Nat) (a0 : ByteArray) : Option (ByteArray × Bool) := qz.l0 k a0 ([] : List Int) 0
theorem qz.xi : ∀ k, (∀ y0 y1 y2, LeO (qz.l0 k y0 y1 y2) (qz.l0 (k + 1) y0 y1 y2)) ∧ (∀ y0 y1 y2 y3, LeO (qz.j1 k y0 y1 y2 y3) (qz.j1 (k + 1) y0 y1 y2 y3)) ∧ (∀ y0 y1 y2 y3 y4 y5, LeO (qz.j2 k y0 y1 y2 y3 y4 y5) (qz.j2 (k + 1) y0 y1 y2 y3 y4 y5))
 | 0 => ⟨fun _ _ _ r h => by simp [qz.l0] at h, fun _ _ _ _ r h => by simp [qz.j1] at h, fun _ _ _ _ _ _ r h => by simp [qz.j2] at h⟩
 | k + 1 => by
  obtain ⟨ih0, ih1, ih2⟩ := qz.xi k
  refine ⟨?_, ?_, ?_⟩
  ·intro y0 y1 y2
   unfold qz.l0
   repeat' first
   | (with_reducible exact ih0 _ _ _)
   | (with_reducible exact ih1 _ _ _ _)
   | (with_reducible exact ih2 _ _ _ _ _ _)
   | (with_reducible exact LeO.refl _)
   | (with_reducible exact LeO.none _)
   | (with_reducible refine LeO.ite ?_ ?_)
   | (with_reducible refine LeO.bind ?_ (fun _ => ?_))
  ·intro y0 y1 y2 y3
   unfold qz.j1
   repeat' first
   | (with_reducible exact ih0 _ _ _)
   | (with_reducible exact ih1 _ _ _ _)
   | (with_reducible exact ih2 _ _ _ _ _ _)
   | (with_reducible exact LeO.refl _)
   | (with_reducible exact LeO.none _)
   | (with_reducible refine LeO.ite ?_ ?_)
   | (with_reducible refine LeO.bind ?_ (fun _ => ?_))
  ·intro y0 y1 y2 y3 y4 y5
   unfold qz.j2
   repeat' first
   | (with_reducible exact ih0 _ _ _)
   | (with_reducible exact ih1 _ _ _ _)
   | (with_reducible exact ih2 _ _ _ _ _ _)
   | (with_reducible exact LeO.refl _)
   | (with_reducible exact LeO.none _)
   | (with_reducible refine LeO.ite ?_ ?_)
   | (with_reducible refine LeO.bind ?_ (fun _ => ?_))
theorem qz.mono : ∀ a0 k, LeO (qz.f k a0) (qz.f (k + 1) a0) := by
 intro a0 k
 obtain ⟨ih0, ih1, ih2⟩ := qz.xi k
 unfold qz.f
 repeat' first
   | (with_reducible exact ih0 _ _ _)
   | (with_reducible exact ih1 _ _ _ _)
   | (with_reducible exact ih2 _ _ _ _ _ _)
   | (with_reducible exact LeO.refl _)
   | (with_reducible exact LeO.none _)
   | (with_reducible refine LeO.ite ?_ ?_)
   | (with_reducible refine LeO.bind ?_ (fun _ => ?_))
set_option maxHeartbeats 8000000 in
set_option maxRecDepth 100000 in
theorem qz.calls (k : Nat) (a0 : ByteArray) (r1 : ByteArray) (r2 : Bool) (w : World) (h : qz.f k a0 = some (r1, r2)) :
  Calls Tryz.prog 91 #[.string a0] w fun e w' => e = .returned (.tuple #[.string r1, .bool r2]) ∧ Below w.heap.size w w' := by
 have HB := qa.mk (Below.refl w.heap.size w)
 have H : (qz.l0 k a0 ([] : List Int) 0) = some (r1, r2) := h
 clear h
 have H' := qa.mk H
 clear H
 go_enter Tryz.func91, Tryz.ntmps91
 go_wp2
 repeat (go_quiet (fail); try go_wp2)
 go_loopg [4, 5] k (fun kq v4 v5 w' => ∃ (x4_1 : List Int) (x5_1 : Int), v5 = .int .i64 x5_1 ∧ qa (qz.l0 kq a0 x4_1 x5_1 = some (r1, r2)) ∧ qa (kq ≤ k) ∧ qa (Kd.R (Kd.int .u8) 5 w' w.heap.size (fun _ => True) v4 x4_1) ∧ qa (Below w.heap.size w w'))
 case atStart => exact ⟨(([] : List Int)), (0), yf, H', ⟨Nat.le_refl _⟩, ⟨by first | exact Kd.R_nil _ _ _ _ _ | exact Kd.N_nil _ _ _ _ _ | exact Kd.V_nil _ _ _ _ _ | exact Kd.Q_nil _ _ _ _ _ | exact Kd.S_nil _ _ _ _ _⟩, ⟨by repeat (first | (with_reducible first | exact HB.out | apply qc | apply qb | apply qd) | exact HB.out)⟩⟩
 case round =>
  clear H'
  obtain ⟨x4_1, x5_1, rfl, HA, HK1, HO_4, HB⟩ := hrel
  cases gk with
  | zero => exact absurd HA.out (by simp [qz.l0])
  | succ k1 =>
   have H := HA.out
   clear HA
   simp only [qz.l0] at H
   by_cases c2 : x5_1 < (a0.size : Int)
   ·rw [if_pos c2] at H
    have c2b0 : decide (x5_1 < (a0.size : Int)) = true := decide_eq_true c2
    clear c2
    by_cases c3 : 0 ≤ x5_1
    ·rw [if_pos c3] at H
     have c3b0 : decide (0 ≤ x5_1) = true := decide_eq_true c3
     clear c3
     replace H := Option.bind_eq_some_iff.mp H
     obtain ⟨t133, A50, H⟩ := H
     replace H : (if t133 = true then (if x4_1.length < 140737488355328 then (qz.l0 k1 a0 (x4_1 ++ [bt a0 x5_1]) (wrap64 (x5_1 + 1))) else (none)) else (if (bt a0 x5_1) = 92 then (qz.j1 k1 a0 x4_1 x5_1 (decide ((wrap64 ((a0.size : Int) - x5_1)) < 3))) else (qz.j1 k1 a0 x4_1 x5_1 true))) = some (r1, r2) := H
     have A5 := qa.mk A50
     clear A50
     by_cases c6 : t133 = true
     ·subst c6
      have H1 : (if x4_1.length < 140737488355328 then (qz.l0 k1 a0 (x4_1 ++ [bt a0 x5_1]) (wrap64 (x5_1 + 1))) else (none)) = some (r1, r2) := by rw [if_pos rfl] at H; exact H
      clear H
      have H := H1
      clear H1
      by_cases c8 : x4_1.length < 140737488355328
      ·rw [if_pos c8] at H
       have LMc8 := qa.mk c8
       clear c8
       obtain ⟨y134, hy134⟩ : ∃ y_ : List Int, y_ = (x4_1 ++ [bt a0 x5_1]) := ⟨_, rfl⟩
       replace H : (qz.l0 k1 a0 y134 (wrap64 (x5_1 + 1))) = some (r1, r2) := by first | (rw [hy134]; with_reducible exact H) | (have H2_ := (Option.bind_some _ _).symm.trans H; rw [hy134]; with_reducible exact H2_) | (have H2_ := (Option.bind_some _ _).symm.trans H; with_reducible exact H2_) | with_reducible exact H | (rw [hy134]; exact H) | exact H
       have Ny134 := qa.mk hy134
       clear hy134
       have H' := qa.mk H
       clear H
       have p4 : 0 ≤ (x5_1 : Int) := of_decide_eq_true cz
       have q4 : x5_1 < (a0.size : Int) := of_decide_eq_true cz
       have hx4 := km a0 x5_1
       replace p4 := eq_true p4
       replace q4 := eq_true q4
       go_wp2_with (first | (go_at_call 78; (with_reducible refine (kp.calls (bt a0 x5_1) true _ A5.out).mono ?_); rintro e w' ⟨rfl, ⟨nd, rfl⟩⟩; (try first | exact ⟨rfl, _, World.drewN_drewN _ _ _⟩ | exact ⟨rfl, _, Eq.trans (World.drewN_drewN _ _ _) (congrArg (World.drewN _) (Nat.add_assoc _ _ _))⟩); have p7 : 0 ≤ (x5_1 : Int) := of_decide_eq_true cz; have q7 : x5_1 < (a0.size : Int) := of_decide_eq_true cz; have hx7 := km a0 x5_1; replace p7 := eq_true p7; replace q7 := eq_true q7) | ((with_reducible refine xo (b := .append) (xs := #[.tmp 18, .tmp 22]) rfl ?_); (try (refine kg (by rfl) ?_; dsimp only)); at_builtin; refine Kd.kv (Kd.int .u8) (w0 := w) w.heap.size rfl (.tmp 18) (.tmp 22) 59 5 (.int .u8 0) 1 rfl Tryz.underlying59 info5 rfl (by decide) yg u4 x4_1 (bt a0 x5_1) [.int .u8 (bt a0 x5_1)] (fun _ => True) (fun _ => False) rfl rfl ?aP (fun _ hk => hk.elim) ?aF ?aO ?aB ?aS ?aL ?_; (case aP => exact rfl); (case aB => exact cu); (case aF => exact (fun _ _ => trivial)); (case aO => exact yz); (case aS => exact (qr cu)); (case aL => have := LMc8.out; omega); intro v135 w9 ho hb hg hat; rw [← Ny134.out] at ho; have n0_ := qa.mk (hb); have n1_ := qa.mk (ho); clear HB; clear HO_4; have HB := n0_; have HO136 := n1_; clear n0_ n1_; clear ho hb hg hat))
       repeat (go_quiet (first | (go_at_call 78; (with_reducible refine (kp.calls (bt a0 x5_1) true _ A5.out).mono ?_); rintro e w' ⟨rfl, ⟨nd, rfl⟩⟩; (try first | exact ⟨rfl, _, World.drewN_drewN _ _ _⟩ | exact ⟨rfl, _, Eq.trans (World.drewN_drewN _ _ _) (congrArg (World.drewN _) (Nat.add_assoc _ _ _))⟩); have p7 : 0 ≤ (x5_1 : Int) := of_decide_eq_true cz; have q7 : x5_1 < (a0.size : Int) := of_decide_eq_true cz; have hx7 := km a0 x5_1; replace p7 := eq_true p7; replace q7 := eq_true q7) | ((with_reducible refine xo (b := .append) (xs := #[.tmp 18, .tmp 22]) rfl ?_); (try (refine kg (by rfl) ?_; dsimp only)); at_builtin; refine Kd.kv (Kd.int .u8) (w0 := w) w.heap.size rfl (.tmp 18) (.tmp 22) 59 5 (.int .u8 0) 1 rfl Tryz.underlying59 info5 rfl (by decide) yg u4 x4_1 (bt a0 x5_1) [.int .u8 (bt a0 x5_1)] (fun _ => True) (fun _ => False) rfl rfl ?aP (fun _ hk => hk.elim) ?aF ?aO ?aB ?aS ?aL ?_; (case aP => exact rfl); (case aB => exact cu); (case aF => exact (fun _ _ => trivial)); (case aO => exact yz); (case aS => exact (qr cu)); (case aL => have := LMc8.out; omega); intro v135 w9 ho hb hg hat; rw [← Ny134.out] at ho; have n0_ := qa.mk (hb); have n1_ := qa.mk (ho); clear HB; clear HO_4; have HB := n0_; have HO136 := n1_; clear n0_ n1_; clear ho hb hg hat)); try go_wp2_with (first | (go_at_call 78; (with_reducible refine (kp.calls (bt a0 x5_1) true _ A5.out).mono ?_); rintro e w' ⟨rfl, ⟨nd, rfl⟩⟩; (try first | exact ⟨rfl, _, World.drewN_drewN _ _ _⟩ | exact ⟨rfl, _, Eq.trans (World.drewN_drewN _ _ _) (congrArg (World.drewN _) (Nat.add_assoc _ _ _))⟩); have p7 : 0 ≤ (x5_1 : Int) := of_decide_eq_true cz; have q7 : x5_1 < (a0.size : Int) := of_decide_eq_true cz; have hx7 := km a0 x5_1; replace p7 := eq_true p7; replace q7 := eq_true q7) | ((with_reducible refine xo (b := .append) (xs := #[.tmp 18, .tmp 22]) rfl ?_); (try (refine kg (by rfl) ?_; dsimp only)); at_builtin; refine Kd.kv (Kd.int .u8) (w0 := w) w.heap.size rfl (.tmp 18) (.tmp 22) 59 5 (.int .u8 0) 1 rfl Tryz.underlying59 info5 rfl (by decide) yg u4 x4_1 (bt a0 x5_1) [.int .u8 (bt a0 x5_1)] (fun _ => True) (fun _ => False) rfl rfl ?aP (fun _ hk => hk.elim) ?aF ?aO ?aB ?aS ?aL ?_; (case aP => exact rfl); (case aB => exact cu); (case aF => exact (fun _ _ => trivial)); (case aO => exact yz); (case aS => exact (qr cu)); (case aL => have := LMc8.out; omega); intro v135 w9 ho hb hg hat; rw [← Ny134.out] at ho; have n0_ := qa.mk (hb); have n1_ := qa.mk (ho); clear HB; clear HO_4; have HB := n0_; have HO136 := n1_; clear n0_ n1_; clear ho hb hg hat)))
       go_roundg k1
       case measure => have := HK1.out; omega
       case rel => exact ⟨(y134), (wrap64 (x5_1 + 1)), yf, H', ⟨by have := HK1.out; omega⟩, ⟨by (with_reducible repeat (first | apply Kd.zh | apply Kd.zg | apply Kd.zr)); exact HO136.out⟩, ⟨by repeat (first | (with_reducible first | exact HB.out | apply qc | apply qb | apply qd) | exact HB.out)⟩⟩
      ·rw [if_neg c8] at H
       exact absurd H yt
     ·replace c6 := Bool.eq_false_iff.mpr c6
      subst c6
      have H1 : (if (bt a0 x5_1) = 92 then (qz.j1 k1 a0 x4_1 x5_1 (decide ((wrap64 ((a0.size : Int) - x5_1)) < 3))) else (qz.j1 k1 a0 x4_1 x5_1 true)) = some (r1, r2) := by rw [if_neg (show ¬ (false = true) by decide)] at H; exact H
      clear H
      have H := H1
      clear H1
      have HC10 := qa.mk H
      clear H
      have p4 : 0 ≤ (x5_1 : Int) := of_decide_eq_true cz
      have q4 : x5_1 < (a0.size : Int) := of_decide_eq_true cz
      have hx4 := km a0 x5_1
      replace p4 := eq_true p4
      replace q4 := eq_true q4
      go_upto_region 7 with (first | (go_at_call 78; (with_reducible refine (kp.calls (bt a0 x5_1) false _ A5.out).mono ?_); rintro e w' ⟨rfl, ⟨nd, rfl⟩⟩; (try first | exact ⟨rfl, _, World.drewN_drewN _ _ _⟩ | exact ⟨rfl, _, Eq.trans (World.drewN_drewN _ _ _) (congrArg (World.drewN _) (Nat.add_assoc _ _ _))⟩)))
      repeat (go_quiet (first | (go_at_call 78; (with_reducible refine (kp.calls (bt a0 x5_1) false _ A5.out).mono ?_); rintro e w' ⟨rfl, ⟨nd, rfl⟩⟩; (try first | exact ⟨rfl, _, World.drewN_drewN _ _ _⟩ | exact ⟨rfl, _, Eq.trans (World.drewN_drewN _ _ _) (congrArg (World.drewN _) (Nat.add_assoc _ _ _))⟩))); go_upto_region 7 with (first | (go_at_call 78; (with_reducible refine (kp.calls (bt a0 x5_1) false _ A5.out).mono ?_); rintro e w' ⟨rfl, ⟨nd, rfl⟩⟩; (try first | exact ⟨rfl, _, World.drewN_drewN _ _ _⟩ | exact ⟨rfl, _, Eq.trans (World.drewN_drewN _ _ _) (congrArg (World.drewN _) (Nat.add_assoc _ _ _))⟩))))
      (try simp only [Act.put, List.setIfInBounds_toArray, List.set_cons_zero, List.set_cons_succ])
      go_cut [34] (fun v34 wc => ∃ (kq : Nat) (x34_9 : Bool), v34 = .bool x34_9 ∧ qa (qz.j1 kq a0 x4_1 x5_1 x34_9 = some (r1, r2)) ∧ qa (kq ≤ k1) ∧ qa (Kd.R (Kd.int .u8) 5 wc w.heap.size (fun _ => True) u4 x4_1) ∧ qa (Below w.heap.size w wc))
      case first =>
       have H := HC10.out
       clear HC10
       by_cases c12 : (bt a0 x5_1) = 92
       ·rw [if_pos c12] at H
        have c12b0 : ((bt a0 x5_1) == 92) = true := beq_iff_eq.mpr c12
        have c12b1 : ((bt a0 x5_1) != 92) = false := bne_eq_false_iff_eq.mpr c12
        clear c12
        (first | rw [c12b0] | (simp only [zm, zq]; rw [c12b0]) | skip)
        have H' := qa.mk H
        clear H
        have p11 : 0 ≤ (x5_1 : Int) := of_decide_eq_true cz
        have q11 : x5_1 < (a0.size : Int) := of_decide_eq_true cz
        have hx11 := km a0 x5_1
        replace p11 := eq_true p11
        replace q11 := eq_true q11
        go_wp2
        repeat (go_quiet (fail); try go_wp2)
        go_meet
        case rel => exact ⟨_, (decide ((wrap64 ((a0.size : Int) - x5_1)) < 3)), yf, H', ⟨by have := HK1.out; first | omega | exact Nat.le_refl _⟩, ⟨by (with_reducible repeat (first | apply Kd.zh | apply Kd.zg | apply Kd.zr)); exact HO_4.out⟩, ⟨by repeat (first | (with_reducible first | exact HB.out | apply qc | apply qb | apply qd) | exact HB.out)⟩⟩
       ·rw [if_neg c12] at H
        have c12b0 : ((bt a0 x5_1) == 92) = false := beq_eq_false_iff_ne.mpr c12
        have c12b1 : ((bt a0 x5_1) != 92) = true := bne_iff_ne.mpr c12
        (first | rw [c12b0] | (simp only [zm, zq]; rw [c12b0]) | skip)
        have H' := qa.mk H
        clear H
        have p11 : 0 ≤ (x5_1 : Int) := of_decide_eq_true cz
        have q11 : x5_1 < (a0.size : Int) := of_decide_eq_true cz
        have hx11 := km a0 x5_1
        replace p11 := eq_true p11
        replace q11 := eq_true q11
        go_wp2
        repeat (go_quiet (fail); try go_wp2)
        go_meet
        case rel => exact ⟨_, (true), yf, H', ⟨by have := HK1.out; first | omega | exact Nat.le_refl _⟩, ⟨by (with_reducible repeat (first | apply Kd.zh | apply Kd.zg | apply Kd.zr)); exact HO_4.out⟩, ⟨by repeat (first | (with_reducible first | exact HB.out | apply qc | apply qb | apply qd) | exact HB.out)⟩⟩
      case rest =>
       clear HC10
       (try clear c1); (try clear p1); (try clear q1); (try clear hx1); (try clear c2); (try clear c2b0); (try clear p2); (try clear c3); (try clear c3b0); (try clear p4); (try clear q4); try clear hx4
       (try clear c6); (try clear p6); (try clear p7); (try clear q7); (try clear hx7); (try clear c8); (try clear c9); (try clear p11); (try clear q11); (try clear hx11); (try clear c12); try clear c12b0
       (try clear c12b1); (try clear p11); (try clear p4); (try clear p7); (try clear q11); (try clear q4); try clear q7
       obtain ⟨kq, x34_9, rfl, HA, HJ9, HO_4, HB⟩ := hcut
       cases kq with
       | zero => exact absurd HA.out (by simp [qz.j1])
       | succ kj9 =>
        have H := HA.out
        clear HA
        simp only [qz.j1] at H
        by_cases c13 : x34_9 = true
        ·subst c13
         have H1 : (some ((⟨#[]⟩ : ByteArray), false)) = some (r1, r2) := by rw [if_pos rfl] at H; exact H
         clear H
         have H := H1
         clear H1
         simp only [Option.some.injEq, Prod.mk.injEq] at H
         obtain ⟨rfl, rfl⟩ := H
         go_wp2
         repeat (go_quiet (fail); try go_wp2)
         go_ret2
         exact ⟨by first | rfl | (simp [qu, qt] <;> rfl) | (simp [*, qu, qt] <;> rfl), by repeat (first | (with_reducible first | exact HB.out | apply qc | apply qb | apply qd) | exact HB.out)⟩
        ·replace c13 := Bool.eq_false_iff.mpr c13
         subst c13
         have H1 : (if 0 ≤ (wrap64 (x5_1 + 1)) then (if (wrap64 (x5_1 + 1)) < (a0.size : Int) then ((strings_IndexByte.f (⟨#[48, 49, 50, 51, 52, 53, 54, 55, 56, 57, 97, 98, 99, 100, 101, 102]⟩ : ByteArray) (bt a0 (wrap64 (x5_1 + 1)))).bind fun t137 => (if 0 ≤ (wrap64 (x5_1 + 2)) then (if (wrap64 (x5_1 + 2)) < (a0.size : Int) then ((strings_IndexByte.f (⟨#[48, 49, 50, 51, 52, 53, 54, 55, 56, 57, 97, 98, 99, 100, 101, 102]⟩ : ByteArray) (bt a0 (wrap64 (x5_1 + 2)))).bind fun t138 => (if t137 < 0 then (qz.j2 kj9 a0 x4_1 x5_1 t137 t138 true) else (if t138 < 0 then (qz.j2 kj9 a0 x4_1 x5_1 t137 t138 true) else ((kp.f ((Go.bits .or .i64 (wrap64 (t137 * 16)) t138) % 256)).bind fun t139 => (qz.j2 kj9 a0 x4_1 x5_1 t137 t138 t139))))) else (none)) else (none))) else (none)) else (none)) = some (r1, r2) := by rw [if_neg (show ¬ (false = true) by decide)] at H; exact H
         clear H
         have H := H1
         clear H1
         obtain ⟨ji14, hji14⟩ : ∃ j_ : Int, (wrap64 (x5_1 + 1)) = j_ := ⟨_, rfl⟩
         replace H : (if 0 ≤ (ji14) then (if (ji14) < (a0.size : Int) then ((strings_IndexByte.f (⟨#[48, 49, 50, 51, 52, 53, 54, 55, 56, 57, 97, 98, 99, 100, 101, 102]⟩ : ByteArray) (bt a0 (ji14))).bind fun t137 => (if 0 ≤ (wrap64 (x5_1 + 2)) then (if (wrap64 (x5_1 + 2)) < (a0.size : Int) then ((strings_IndexByte.f (⟨#[48, 49, 50, 51, 52, 53, 54, 55, 56, 57, 97, 98, 99, 100, 101, 102]⟩ : ByteArray) (bt a0 (wrap64 (x5_1 + 2)))).bind fun t138 => (if t137 < 0 then (qz.j2 kj9 a0 x4_1 x5_1 t137 t138 true) else (if t138 < 0 then (qz.j2 kj9 a0 x4_1 x5_1 t137 t138 true) else ((kp.f ((Go.bits .or .i64 (wrap64 (t137 * 16)) t138) % 256)).bind fun t139 => (qz.j2 kj9 a0 x4_1 x5_1 t137 t138 t139))))) else (none)) else (none))) else (none)) else (none)) = some (r1, r2) := by first | (rw [hji14] at H; exact H) | (simp only [hji14] at H ⊢; exact H)
         have hji14w : (IntKind.i64.wrap (x5_1 + 1)) = ji14 := (zm _).trans hji14
         by_cases c15 : 0 ≤ (ji14)
         ·rw [if_pos c15] at H
          have c15b0 : decide (0 ≤ (ji14)) = true := decide_eq_true c15
          clear c15
          by_cases c16 : (ji14) < (a0.size : Int)
          ·rw [if_pos c16] at H
           have c16b0 : decide ((ji14) < (a0.size : Int)) = true := decide_eq_true c16
           clear c16
           replace H := Option.bind_eq_some_iff.mp H
           obtain ⟨t137, A180, H⟩ := H
           replace H : (if 0 ≤ (wrap64 (x5_1 + 2)) then (if (wrap64 (x5_1 + 2)) < (a0.size : Int) then ((strings_IndexByte.f (⟨#[48, 49, 50, 51, 52, 53, 54, 55, 56, 57, 97, 98, 99, 100, 101, 102]⟩ : ByteArray) (bt a0 (wrap64 (x5_1 + 2)))).bind fun t138 => (if t137 < 0 then (qz.j2 kj9 a0 x4_1 x5_1 t137 t138 true) else (if t138 < 0 then (qz.j2 kj9 a0 x4_1 x5_1 t137 t138 true) else ((kp.f ((Go.bits .or .i64 (wrap64 (t137 * 16)) t138) % 256)).bind fun t139 => (qz.j2 kj9 a0 x4_1 x5_1 t137 t138 t139))))) else (none)) else (none)) = some (r1, r2) := H
           have A18 := qa.mk A180
           clear A180
           obtain ⟨ji19, hji19⟩ : ∃ j_ : Int, (wrap64 (x5_1 + 2)) = j_ := ⟨_, rfl⟩
           replace H : (if 0 ≤ (ji19) then (if (ji19) < (a0.size : Int) then ((strings_IndexByte.f (⟨#[48, 49, 50, 51, 52, 53, 54, 55, 56, 57, 97, 98, 99, 100, 101, 102]⟩ : ByteArray) (bt a0 (ji19))).bind fun t138 => (if t137 < 0 then (qz.j2 kj9 a0 x4_1 x5_1 t137 t138 true) else (if t138 < 0 then (qz.j2 kj9 a0 x4_1 x5_1 t137 t138 true) else ((kp.f ((Go.bits .or .i64 (wrap64 (t137 * 16)) t138) % 256)).bind fun t139 => (qz.j2 kj9 a0 x4_1 x5_1 t137 t138 t139))))) else (none)) else (none)) = some (r1, r2) := by first | (rw [hji19] at H; exact H) | (simp only [hji19] at H ⊢; exact H)
           (try rw [hji19] at A18)
           have hji19w : (IntKind.i64.wrap (x5_1 + 2)) = ji19 := (zm _).trans hji19
           by_cases c20 : 0 ≤ (ji19)
           ·rw [if_pos c20] at H
            have c20b0 : decide (0 ≤ (ji19)) = true := decide_eq_true c20
            clear c20
            by_cases c21 : (ji19) < (a0.size : Int)
            ·rw [if_pos c21] at H
             have c21b0 : decide ((ji19) < (a0.size : Int)) = true := decide_eq_true c21
             clear c21
             replace H := Option.bind_eq_some_iff.mp H
             obtain ⟨t138, A230, H⟩ := H
             replace H : (if t137 < 0 then (qz.j2 kj9 a0 x4_1 x5_1 t137 t138 true) else (if t138 < 0 then (qz.j2 kj9 a0 x4_1 x5_1 t137 t138 true) else ((kp.f ((Go.bits .or .i64 (wrap64 (t137 * 16)) t138) % 256)).bind fun t139 => (qz.j2 kj9 a0 x4_1 x5_1 t137 t138 t139)))) = some (r1, r2) := H
             have A23 := qa.mk A230
             clear A230
             have HC24 := qa.mk H
             clear H
             have p17 : 0 ≤ ((ji14) : Int) := of_decide_eq_true cz
             have q17 : (ji14) < (a0.size : Int) := of_decide_eq_true cz
             have hx17 := km a0 (ji14)
             replace p17 := eq_true p17
             replace q17 := eq_true q17
             go_upto_region 10 with (first | (go_at_call 106; (with_reducible refine (strings_IndexByte.calls (⟨#[48, 49, 50, 51, 52, 53, 54, 55, 56, 57, 97, 98, 99, 100, 101, 102]⟩ : ByteArray) (bt a0 (ji14)) t137 _ A18.out).mono ?_); rintro e w' ⟨rfl, ⟨nd, rfl⟩⟩; (try first | exact ⟨rfl, _, World.drewN_drewN _ _ _⟩ | exact ⟨rfl, _, Eq.trans (World.drewN_drewN _ _ _) (congrArg (World.drewN _) (Nat.add_assoc _ _ _))⟩); have p22 : 0 ≤ ((ji19) : Int) := of_decide_eq_true cz; have q22 : (ji19) < (a0.size : Int) := of_decide_eq_true cz; have hx22 := km a0 (ji19); replace p22 := eq_true p22; replace q22 := eq_true q22) | (go_at_call 106; (with_reducible refine (strings_IndexByte.calls (⟨#[48, 49, 50, 51, 52, 53, 54, 55, 56, 57, 97, 98, 99, 100, 101, 102]⟩ : ByteArray) (bt a0 (ji19)) t138 _ A23.out).mono ?_); rintro e w' ⟨rfl, ⟨nd, rfl⟩⟩; (try first | exact ⟨rfl, _, World.drewN_drewN _ _ _⟩ | exact ⟨rfl, _, Eq.trans (World.drewN_drewN _ _ _) (congrArg (World.drewN _) (Nat.add_assoc _ _ _))⟩)))
             repeat (go_quiet (first | (go_at_call 106; (with_reducible refine (strings_IndexByte.calls (⟨#[48, 49, 50, 51, 52, 53, 54, 55, 56, 57, 97, 98, 99, 100, 101, 102]⟩ : ByteArray) (bt a0 (ji14)) t137 _ A18.out).mono ?_); rintro e w' ⟨rfl, ⟨nd, rfl⟩⟩; (try first | exact ⟨rfl, _, World.drewN_drewN _ _ _⟩ | exact ⟨rfl, _, Eq.trans (World.drewN_drewN _ _ _) (congrArg (World.drewN _) (Nat.add_assoc _ _ _))⟩); have p22 : 0 ≤ ((ji19) : Int) := of_decide_eq_true cz; have q22 : (ji19) < (a0.size : Int) := of_decide_eq_true cz; have hx22 := km a0 (ji19); replace p22 := eq_true p22; replace q22 := eq_true q22) | (go_at_call 106; (with_reducible refine (strings_IndexByte.calls (⟨#[48, 49, 50, 51, 52, 53, 54, 55, 56, 57, 97, 98, 99, 100, 101, 102]⟩ : ByteArray) (bt a0 (ji19)) t138 _ A23.out).mono ?_); rintro e w' ⟨rfl, ⟨nd, rfl⟩⟩; (try first | exact ⟨rfl, _, World.drewN_drewN _ _ _⟩ | exact ⟨rfl, _, Eq.trans (World.drewN_drewN _ _ _) (congrArg (World.drewN _) (Nat.add_assoc _ _ _))⟩))); go_upto_region 10 with (first | (go_at_call 106; (with_reducible refine (strings_IndexByte.calls (⟨#[48, 49, 50, 51, 52, 53, 54, 55, 56, 57, 97, 98, 99, 100, 101, 102]⟩ : ByteArray) (bt a0 (ji14)) t137 _ A18.out).mono ?_); rintro e w' ⟨rfl, ⟨nd, rfl⟩⟩; (try first | exact ⟨rfl, _, World.drewN_drewN _ _ _⟩ | exact ⟨rfl, _, Eq.trans (World.drewN_drewN _ _ _) (congrArg (World.drewN _) (Nat.add_assoc _ _ _))⟩); have p22 : 0 ≤ ((ji19) : Int) := of_decide_eq_true cz; have q22 : (ji19) < (a0.size : Int) := of_decide_eq_true cz; have hx22 := km a0 (ji19); replace p22 := eq_true p22; replace q22 := eq_true q22) | (go_at_call 106; (with_reducible refine (strings_IndexByte.calls (⟨#[48, 49, 50, 51, 52, 53, 54, 55, 56, 57, 97, 98, 99, 100, 101, 102]⟩ : ByteArray) (bt a0 (ji19)) t138 _ A23.out).mono ?_); rintro e w' ⟨rfl, ⟨nd, rfl⟩⟩; (try first | exact ⟨rfl, _, World.drewN_drewN _ _ _⟩ | exact ⟨rfl, _, Eq.trans (World.drewN_drewN _ _ _) (congrArg (World.drewN _) (Nat.add_assoc _ _ _))⟩))))
             (try simp only [Act.put, List.setIfInBounds_toArray, List.set_cons_zero, List.set_cons_succ])
             go_cut [58] (fun v58 wc => ∃ (kq : Nat) (x58_23 : Bool), v58 = .bool x58_23 ∧ qa (qz.j2 kq a0 x4_1 x5_1 t137 t138 x58_23 = some (r1, r2)) ∧ qa (kq ≤ kj9) ∧ qa (Kd.R (Kd.int .u8) 5 wc w.heap.size (fun _ => True) u4 x4_1) ∧ qa (Below w.heap.size w wc))
             case first =>
              have H := HC24.out
              clear HC24
              by_cases c25 : t137 < 0
              ·rw [if_pos c25] at H
               have c25b0 : decide (t137 < 0) = true := decide_eq_true c25
               clear c25
               (first | rw [c25b0] | (simp only [zm, zq]; rw [c25b0]) | skip)
               have H' := qa.mk H
               clear H
               go_wp2
               repeat (go_quiet (fail); try go_wp2)
               go_meet
               case rel => exact ⟨_, (true), yf, H', ⟨by have := HK1.out; have := HJ9.out; first | omega | exact Nat.le_refl _⟩, ⟨by (with_reducible repeat (first | apply Kd.zh | apply Kd.zg | apply Kd.zr)); exact HO_4.out⟩, ⟨by repeat (first | (with_reducible first | exact HB.out | apply qc | apply qb | apply qd) | exact HB.out)⟩⟩
              ·rw [if_neg c25] at H
               have c25b0 : decide (t137 < 0) = false := decide_eq_false c25
               clear c25
               (first | rw [c25b0] | (simp only [zm, zq]; rw [c25b0]) | skip)
               by_cases c26 : t138 < 0
               ·rw [if_pos c26] at H
                have c26b0 : decide (t138 < 0) = true := decide_eq_true c26
                clear c26
                have H' := qa.mk H
                clear H
                go_wp2
                repeat (go_quiet (fail); try go_wp2)
                go_meet
                case rel => exact ⟨_, (true), yf, H', ⟨by have := HK1.out; have := HJ9.out; first | omega | exact Nat.le_refl _⟩, ⟨by (with_reducible repeat (first | apply Kd.zh | apply Kd.zg | apply Kd.zr)); exact HO_4.out⟩, ⟨by repeat (first | (with_reducible first | exact HB.out | apply qc | apply qb | apply qd) | exact HB.out)⟩⟩
               ·rw [if_neg c26] at H
                have c26b0 : decide (t138 < 0) = false := decide_eq_false c26
                clear c26
                replace H := Option.bind_eq_some_iff.mp H
                obtain ⟨t139, A270, H⟩ := H
                replace H : (qz.j2 kj9 a0 x4_1 x5_1 t137 t138 t139) = some (r1, r2) := H
                have A27 := qa.mk A270
                clear A270
                have H' := qa.mk H
                clear H
                go_wp2_with (first | (go_at_call 78; (with_reducible refine (kp.calls ((Go.bits .or .i64 (wrap64 (t137 * 16)) t138) % 256) t139 _ A27.out).mono ?_); rintro e w' ⟨rfl, ⟨nd, rfl⟩⟩; (try first | exact ⟨rfl, _, World.drewN_drewN _ _ _⟩ | exact ⟨rfl, _, Eq.trans (World.drewN_drewN _ _ _) (congrArg (World.drewN _) (Nat.add_assoc _ _ _))⟩)))
                repeat (go_quiet (first | (go_at_call 78; (with_reducible refine (kp.calls ((Go.bits .or .i64 (wrap64 (t137 * 16)) t138) % 256) t139 _ A27.out).mono ?_); rintro e w' ⟨rfl, ⟨nd, rfl⟩⟩; (try first | exact ⟨rfl, _, World.drewN_drewN _ _ _⟩ | exact ⟨rfl, _, Eq.trans (World.drewN_drewN _ _ _) (congrArg (World.drewN _) (Nat.add_assoc _ _ _))⟩))); try go_wp2_with (first | (go_at_call 78; (with_reducible refine (kp.calls ((Go.bits .or .i64 (wrap64 (t137 * 16)) t138) % 256) t139 _ A27.out).mono ?_); rintro e w' ⟨rfl, ⟨nd, rfl⟩⟩; (try first | exact ⟨rfl, _, World.drewN_drewN _ _ _⟩ | exact ⟨rfl, _, Eq.trans (World.drewN_drewN _ _ _) (congrArg (World.drewN _) (Nat.add_assoc _ _ _))⟩))))
                go_meet
                case rel => exact ⟨_, (t139), yf, H', ⟨by have := HK1.out; have := HJ9.out; first | omega | exact Nat.le_refl _⟩, ⟨by (with_reducible repeat (first | apply Kd.zh | apply Kd.zg | apply Kd.zr)); exact HO_4.out⟩, ⟨by repeat (first | (with_reducible first | exact HB.out | apply qc | apply qb | apply qd) | exact HB.out)⟩⟩
             case rest =>
              clear HC24
              (try clear c1); (try clear p1); (try clear q1); (try clear hx1); (try clear c2); (try clear c2b0); (try clear p2); (try clear q2); (try clear hx2); (try clear c3); try clear c3b0
              (try clear p4); (try clear q4); (try clear hx4); (try clear c6); (try clear p6); (try clear p7); (try clear q7); (try clear hx7); (try clear c8); (try clear c9); try clear p11
              (try clear q11); (try clear hx11); (try clear c12); (try clear c12b0); (try clear c12b1); (try clear c13); (try clear c15); (try clear c15b0); (try clear c16); try clear c16b0
              (try clear p17); (try clear q17); (try clear hx17); (try clear c20); (try clear c20b0); (try clear c21); (try clear c21b0); (try clear p22); (try clear q22); try clear hx22
              (try clear c25); (try clear c25b0); (try clear c26); (try clear c26b0); (try clear p1); (try clear p11); (try clear p17); (try clear p2); (try clear p22); (try clear p4); try clear p6
              (try clear p7); (try clear q1); (try clear q11); (try clear q17); (try clear q22); (try clear q4); try clear q7
              obtain ⟨kq, x58_23, rfl, HA, HJ23, HO_4, HB⟩ := hcut
              cases kq with
              | zero => exact absurd HA.out (by simp [qz.j2])
              | succ kj23 =>
               have H := HA.out
               clear HA
               simp only [qz.j2] at H
               by_cases c28 : x58_23 = true
               ·subst c28
                have H1 : (some ((⟨#[]⟩ : ByteArray), false)) = some (r1, r2) := by rw [if_pos rfl] at H; exact H
                clear H
                have H := H1
                clear H1
                simp only [Option.some.injEq, Prod.mk.injEq] at H
                obtain ⟨rfl, rfl⟩ := H
                go_wp2
                repeat (go_quiet (fail); try go_wp2)
                go_ret2
                exact ⟨by first | rfl | (simp [qu, qt] <;> rfl) | (simp only [← hji14, ← hji19]; first | rfl | (simp [qu, qt] <;> rfl)) | (simp [*, qu, qt] <;> rfl), by repeat (first | (with_reducible first | exact HB.out | apply qc | apply qb | apply qd) | exact HB.out)⟩
               ·replace c28 := Bool.eq_false_iff.mpr c28
                subst c28
                have H1 : (if x4_1.length < 140737488355328 then (qz.l0 kj23 a0 (x4_1 ++ [(Go.bits .or .i64 (wrap64 (t137 * 16)) t138) % 256]) (wrap64 ((wrap64 (x5_1 + 2)) + 1))) else (none)) = some (r1, r2) := by rw [if_neg (show ¬ (false = true) by decide)] at H; exact H
                clear H
                have H := H1
                clear H1
                by_cases c29 : x4_1.length < 140737488355328
                ·rw [if_pos c29] at H
                 have LMc29 := qa.mk c29
                 clear c29
                 obtain ⟨y140, hy140⟩ : ∃ y_ : List Int, y_ = (x4_1 ++ [(Go.bits .or .i64 (wrap64 (t137 * 16)) t138) % 256]) := ⟨_, rfl⟩
                 replace H : (qz.l0 kj23 a0 y140 (wrap64 ((wrap64 (x5_1 + 2)) + 1))) = some (r1, r2) := by first | (rw [hy140]; with_reducible exact H) | (have H2_ := (Option.bind_some _ _).symm.trans H; rw [hy140]; with_reducible exact H2_) | (have H2_ := (Option.bind_some _ _).symm.trans H; with_reducible exact H2_) | with_reducible exact H | (rw [hy140]; exact H) | exact H
                 have Ny140 := qa.mk hy140
                 clear hy140
                 have H' := qa.mk H
                 clear H
                 go_wp2_with (first | ((with_reducible refine xo (b := .append) (xs := #[.tmp 59, .tmp 65]) rfl ?_); (try (refine kg (by rfl) ?_; dsimp only)); at_builtin; refine Kd.kv (Kd.int .u8) (w0 := w) w.heap.size rfl (.tmp 59) (.tmp 65) 59 5 (.int .u8 0) 1 rfl Tryz.underlying59 info5 rfl (by decide) yg u4 x4_1 ((Go.bits .or .i64 (wrap64 (t137 * 16)) t138) % 256) [.int .u8 ((Go.bits .or .i64 (wrap64 (t137 * 16)) t138) % 256)] (fun _ => True) (fun _ => False) rfl rfl ?aP (fun _ hk => hk.elim) ?aF ?aO ?aB ?aS ?aL ?_; (case aP => exact rfl); (case aB => exact cu); (case aF => exact (fun _ _ => trivial)); (case aO => exact yz); (case aS => exact (qr cu)); (case aL => have := LMc29.out; omega); intro v141 w30 ho hb hg hat; rw [← Ny140.out] at ho; have n0_ := qa.mk (hb); have n1_ := qa.mk (ho); clear HB; clear HO_4; have HB := n0_; have HO142 := n1_; clear n0_ n1_; clear ho hb hg hat))
                 repeat (go_quiet (first | ((with_reducible refine xo (b := .append) (xs := #[.tmp 59, .tmp 65]) rfl ?_); (try (refine kg (by rfl) ?_; dsimp only)); at_builtin; refine Kd.kv (Kd.int .u8) (w0 := w) w.heap.size rfl (.tmp 59) (.tmp 65) 59 5 (.int .u8 0) 1 rfl Tryz.underlying59 info5 rfl (by decide) yg u4 x4_1 ((Go.bits .or .i64 (wrap64 (t137 * 16)) t138) % 256) [.int .u8 ((Go.bits .or .i64 (wrap64 (t137 * 16)) t138) % 256)] (fun _ => True) (fun _ => False) rfl rfl ?aP (fun _ hk => hk.elim) ?aF ?aO ?aB ?aS ?aL ?_; (case aP => exact rfl); (case aB => exact cu); (case aF => exact (fun _ _ => trivial)); (case aO => exact yz); (case aS => exact (qr cu)); (case aL => have := LMc29.out; omega); intro v141 w30 ho hb hg hat; rw [← Ny140.out] at ho; have n0_ := qa.mk (hb); have n1_ := qa.mk (ho); clear HB; clear HO_4; have HB := n0_; have HO142 := n1_; clear n0_ n1_; clear ho hb hg hat)); try go_wp2_with (first | ((with_reducible refine xo (b := .append) (xs := #[.tmp 59, .tmp 65]) rfl ?_); (try (refine kg (by rfl) ?_; dsimp only)); at_builtin; refine Kd.kv (Kd.int .u8) (w0 := w) w.heap.size rfl (.tmp 59) (.tmp 65) 59 5 (.int .u8 0) 1 rfl Tryz.underlying59 info5 rfl (by decide) yg u4 x4_1 ((Go.bits .or .i64 (wrap64 (t137 * 16)) t138) % 256) [.int .u8 ((Go.bits .or .i64 (wrap64 (t137 * 16)) t138) % 256)] (fun _ => True) (fun _ => False) rfl rfl ?aP (fun _ hk => hk.elim) ?aF ?aO ?aB ?aS ?aL ?_; (case aP => exact rfl); (case aB => exact cu); (case aF => exact (fun _ _ => trivial)); (case aO => exact yz); (case aS => exact (qr cu)); (case aL => have := LMc29.out; omega); intro v141 w30 ho hb hg hat; rw [← Ny140.out] at ho; have n0_ := qa.mk (hb); have n1_ := qa.mk (ho); clear HB; clear HO_4; have HB := n0_; have HO142 := n1_; clear n0_ n1_; clear ho hb hg hat)))
                 go_roundg kj23
                 case measure => have := HK1.out; have := HJ9.out; have := HJ23.out; omega
                 case rel => exact ⟨(y140), (wrap64 ((wrap64 (x5_1 + 2)) + 1)), yf, H', ⟨by have := HK1.out; have := HJ9.out; have := HJ23.out; omega⟩, ⟨by (with_reducible repeat (first | apply Kd.zh | apply Kd.zg | apply Kd.zr)); exact HO142.out⟩, ⟨by repeat (first | (with_reducible first | exact HB.out | apply qc | apply qb | apply qd) | exact HB.out)⟩⟩
                ·rw [if_neg c29] at H
                 exact absurd H yt
            ·rw [if_neg c21] at H
             exact absurd H yt
           ·rw [if_neg c20] at H
            exact absurd H yt
          ·rw [if_neg c16] at H
           exact absurd H yt
         ·rw [if_neg c15] at H
          exact absurd H yt
    ·rw [if_neg c3] at H
     exact absurd H yt
   ·rw [if_neg c2] at H
    have c2b0 : decide (x5_1 < (a0.size : Int)) = false := decide_eq_false c2
    clear c2
    simp only [Option.some.injEq, Prod.mk.injEq] at H
    obtain ⟨rfl, rfl⟩ := H
    have hcv31 := own_string (P := Tryz.prog) Tryz.underlying59 Tryz.underlying5 Tryz.underlying9 (Kd.own_of_R HO_4.out)
    go_wp2
    repeat (go_quiet (fail); try go_wp2)
    go_ret2
    exact ⟨by first | rfl | (simp [qu, qt] <;> rfl) | (simp [*, qu, qt] <;> rfl), by repeat (first | (with_reducible first | exact HB.out | apply qc | apply qb | apply qd) | exact HB.out)⟩
end Go.Proofs.YthdoohfdminfgaaGreatDoor.C
end
