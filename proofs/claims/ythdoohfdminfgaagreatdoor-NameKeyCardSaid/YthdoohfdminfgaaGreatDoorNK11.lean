/- Words, walks and plain laws that the claim rests on, gathered. -/
import Derived.Test.YthdoohfdminfgaaGreatDoorProg
import Derived.WalkSpells
import Derived.Below
import Derived.Deep.Draws
import Derived.Deep.AppendLies
import Derived.Maps.AppendAt
import Derived.OwnWalk
import Derived.Laws.BytesArg
import Derived.Laws.MakeOwn
import Derived.Laws.OwnMore
import Derived.Deep.OwnRows
import Derived.Tactics
import Derived.Lib.ConvBytes
import Derived.Laws.Slices
import Derived.WalkKit
import Derived.KernelRfl
import Derived.RowKit3
import Derived.Deep.LoopGhost
import Derived.Deep.QuietTactic
import Derived.BigQuiet
import Derived.WideLaws
import Derived.Deep.DeepCutAuto
import Derived.Deep.CutBlock
import Derived.Deep.RegionHeld3
import Derived.Laws.Rows
import Derived.Lib.AppendStr
import Derived.ArgAppend
import Derived.Laws.IdiomCopy
import Derived.OrdersHeld
import Derived.Laws.BitsLemmas
import Derived.RowKit
import Derived.WalkLawsBesides
import Derived.Shelf.Strings.Builder1
import Derived.Shelf.Strings.Builder2
import Derived.Shelf.Strings.OnBuilder
import Derived.Shelf.Small.Bits
import Derived.Shelf.Small.Strs
import Derived.Shelf.Strings.BuilderF
import Derived.Shelf.Strings.BuilderK
import Derived.Shelf.Utf8.RuneCount
import Derived.Shelf.Strings.Builder2Cap
import Derived.Shelf.Strconv.Itoa0
import Derived.Shelf.Strconv.Itoa1
import Derived.Shelf.LaysM
import Derived.Shelf.Strconv.Itoa2
import Derived.Shelf.Strconv.Itoa3
import Derived.Shelf.Strings.Search1
import Derived.Shelf.Strings.Search2
import Derived.Shelf.Strings.Search3
import Derived.Shelf.Strings.Cut
import Derived.Shelf.Strings.Count
import Derived.Shelf.Strings.Shaped
import Derived.Shelf.Sort.Plain
import Derived.Ground.GgsProg
import Derived.Shelf.GgSortFunc.Insertion
import Derived.Shelf.GgSortFunc.Small
import Derived.Shelf.GgSortFunc.InsertionK
import Derived.Shelf.GgSortFunc.SmallK
import Derived.Shelf.GgSortFunc.Tiny
import Derived.Shelf.GgSortFunc.Compose
import Derived.Shelf.GgSortFunc.LotD
import Derived.Shelf.GgSortFunc.Pivot
import Derived.Shelf.GgSortFunc.Partition
import Derived.Shelf.GgSortFunc.Pdq
import Derived.Shelf.GgSortFunc.Whole
import Derived.Shelf.Strings.Prefix
import Derived.Shelf.Strings.Split
import Derived.Shelf.Strings.SplitShaped
import Derived.Shelf.Unicode.Decode
import Derived.Shelf.Strings.RuneCount
import Derived.Shelf.Strings.Explode
import Derived.Shelf.Unicode.DecodeSlow
import Derived.Shelf.Unicode.DecodeAny
import Derived.Shelf.Strings.BuilderCap
import Derived.Shelf.Slices.In.SortNone
import Derived.Shelf.Slices.In.SortNone2
import Derived.Shelf.SlSortFunc.Xorshift
import Derived.Shelf.SlSortFuncK.ComposeK
import Derived.Shelf.SlSortFuncK.SiftDownK
import Derived.Shelf.SlSortFuncK.HeapSortK
import Derived.Shelf.SlSortFuncK.PartialInsertionK
import Derived.Shelf.SlSortFuncK.LotDK
import Derived.Shelf.SlSortFuncK.PivotK
import Derived.Shelf.SlSortFuncK.PartitionK
import Derived.Shelf.SlSortFunc.SiftDown
import Derived.Shelf.SlSortFunc.HeapSort
import Derived.Shelf.SlSortFunc.PartialInsertion
import Derived.Shelf.SlSortFuncK.PdqK
import Derived.Shelf.SlSortFuncK.WholeK
import Derived.Laws.StructEq
import Derived.Test.YthdoohfdminfgaaGreatDoorNK0
import Derived.Test.YthdoohfdminfgaaGreatDoorNK1
import Derived.Test.YthdoohfdminfgaaGreatDoorNK2
import Derived.Test.YthdoohfdminfgaaGreatDoorNK9
import Derived.Test.YthdoohfdminfgaaGreatDoorNK10
import Derived.Test.YthdoohfdminfgaaGreatDoorNKc
namespace Go.Proofs.YthdoohfdminfgaaGreatDoorW.PrintLast
end Go.Proofs.YthdoohfdminfgaaGreatDoorW.PrintLast
namespace Go.Proofs.YthdoohfdminfgaaGreatDoorW.PrintMore
end Go.Proofs.YthdoohfdminfgaaGreatDoorW.PrintMore
namespace Go.Proofs.YthdoohfdminfgaaGreatDoorW.PrintWords
end Go.Proofs.YthdoohfdminfgaaGreatDoorW.PrintWords
section
namespace Go.Proofs.YthdoohfdminfgaaGreatDoor.C
open Go.RowKit Go.Proofs.YthdoohfdminfgaaGreatDoorW.PrintWords Go.Proofs.YthdoohfdminfgaaGreatDoorW.PrintLast Go.Proofs.YthdoohfdminfgaaGreatDoorW.PrintMore
attribute [local go_sem] xa z7 xq xr zx zy xc z8
set_option linter.unusedVariables false
set_option linter.unusedSimpArgs false
def ze.l0 : Nat → List (List (S40)) → Int → Int → Option (Int)
 | 0, _, _, _ => none
 | k + 1, x11, x12, x13 => if x13 < x12 then (if 0 ≤ x13 then (if x13 < (x11.length : Int) then (if ((xx x11 x13).length : Int) = 0 then (some 14) else (if ((xx x11 x13).length : Int) > 4 then (some 2) else ((qk.f k (xx x11 x13)).bind fun t246 => (if t246 = 0 then (ze.l0 k x11 x12 (wrap64 (x13 + 1))) else (some t246))))) else (none)) else (none)) else (some 0)
def ze.f (k : Nat) (l0_0 : List (List (S40))) : Option (Int) := if (l0_0.length : Int) > 8 then (some 2) else (ze.l0 k l0_0 (l0_0.length : Int) 0)
theorem ze.xi : ∀ k, (∀ y0 y1 y2, LeO (ze.l0 k y0 y1 y2) (ze.l0 (k + 1) y0 y1 y2))
 | 0 => fun _ _ _ r h => by simp [ze.l0] at h
 | k + 1 => by
  have ih0 := ze.xi k
  ·intro y0 y1 y2
   unfold ze.l0
   repeat' first
   | (with_reducible exact ih0 _ _ _)
   | (with_reducible exact qk.mono _ _)
   | (with_reducible exact LeO.refl _)
   | (with_reducible exact LeO.none _)
   | (with_reducible refine LeO.ite ?_ ?_)
   | (with_reducible refine LeO.bind ?_ (fun _ => ?_))
theorem ze.mono : ∀ a0 k, LeO (ze.f k a0) (ze.f (k + 1) a0) := by
 intro a0 k
 have ih0 := ze.xi k
 unfold ze.f
 repeat' first
   | (with_reducible exact ih0 _ _ _)
   | (with_reducible exact qk.mono _ _)
   | (with_reducible exact LeO.refl _)
   | (with_reducible exact LeO.none _)
   | (with_reducible refine LeO.ite ?_ ?_)
   | (with_reducible refine LeO.bind ?_ (fun _ => ?_))
set_option maxHeartbeats 8000000 in
set_option maxRecDepth 100000 in
theorem ze.calls (k : Nat) (A0_0 : Option Addr) (c0_0 : Nat) (l0_0 : List (List (S40))) (r : Int) (w : World) (hr0_0 : Kd.C (Kd.slice 40 k40) w A0_0 l0_0.length l0_0) (hc0_0 : l0_0.length ≤ c0_0) (h : ze.f k l0_0 = some r) :
  Calls Tryz.prog 22 #[.agg #[.slice A0_0 l0_0.length c0_0]] w fun e w' => e = .returned (.int .i64 r) ∧ Below w.heap.size w w' := by
 have hu31 := Tryz.underlying31
 have HR0_0 := qa.mk hr0_0
 have HC0_0 := qa.mk hc0_0
 clear hr0_0 hc0_0
 have HB := qa.mk (Below.refl w.heap.size w)
 have H : (if (l0_0.length : Int) > 8 then (some 2) else (ze.l0 k l0_0 (l0_0.length : Int) 0)) = some r := h
 clear h
 by_cases c2 : (l0_0.length : Int) > 8
 ·rw [if_pos c2] at H
  have c2b0 : decide (8 < (l0_0.length : Int)) = true := decide_eq_true c2
  have c2b1 : decide (8 < l0_0.length) = true := decide_eq_true yg
  clear c2
  obtain rfl := Option.some.inj H
  go_enter Tryz.func22, Tryz.ntmps22
  go_wp2_with (first | ((with_reducible refine zl (N := 1) rfl ?_); refine zo ?hg (N := 1) ?hd (cs := #[.slice A0_0 l0_0.length c0_0]) (t := 31) ?hr ?_; (case hd => rfl); (case hg => rfl); (case hr => first | (go_simp; done) | (go_simp; rfl)); intro gb244 hg w3 hbox hb; have n0_ := qa.mk (qp cu hb); have n1_ := qa.mk (hbox); have n2_ := qa.mk ((by rw [hg]; exact (qr cu) : w.heap.size ≤ gb244)); have n3_ := qa.mk ((by rw [hg]; exact (qr cu) : w.heap.size ≤ gb244)); clear HB; have HB := n0_; have BK244 := n1_; have GW244 := n2_; have GE244 := n3_; clear n0_ n1_ n2_ n3_; clear hb hbox hg; have hcz4_0 : w3.cell? ⟨gb244, 0, none⟩ = some (.slice A0_0 l0_0.length c0_0) := (ql BK244.out 0).trans rfl; have hfz4_0 := qo BK244.out 0))
  go_ret
  exact ⟨by first | rfl | (simp [qu, qt] <;> rfl) | (simp [*, qu, qt] <;> rfl), by repeat (first | (with_reducible first | exact HB.out | apply qc | apply qb | apply qd | refine qe ?_ GE244.out) | exact HB.out)⟩
 ·rw [if_neg c2] at H
  have c2b0 : decide (8 < (l0_0.length : Int)) = false := decide_eq_false c2
  have c2b1 : decide (8 < l0_0.length) = false := decide_eq_false yg
  clear c2
  have H' := qa.mk H
  clear H
  go_enter Tryz.func22, Tryz.ntmps22
  go_wp2_with (first | ((with_reducible refine zl (N := 1) rfl ?_); refine zo ?hg (N := 1) ?hd (cs := #[.slice A0_0 l0_0.length c0_0]) (t := 31) ?hr ?_; (case hd => rfl); (case hg => rfl); (case hr => first | (go_simp; done) | (go_simp; rfl)); intro gb244 hg w5 hbox hb; have n0_ := qa.mk (qp cu hb); have n1_ := qa.mk (hbox); have n2_ := qa.mk ((by rw [hg]; exact (qr cu) : w.heap.size ≤ gb244)); have n3_ := qa.mk ((by rw [hg]; exact (qr cu) : w.heap.size ≤ gb244)); clear HB; have HB := n0_; have BK244 := n1_; have GW244 := n2_; have GE244 := n3_; clear n0_ n1_ n2_ n3_; clear hb hbox hg; have hcz6_0 : w5.cell? ⟨gb244, 0, none⟩ = some (.slice A0_0 l0_0.length c0_0) := (ql BK244.out 0).trans rfl; have hfz6_0 := qo BK244.out 0))
  go_loopg [13] k (fun kq v13 w' => ∃ (x13_1 : Int), v13 = .int .i64 x13_1 ∧ qa (ze.l0 kq l0_0 (l0_0.length : Int) x13_1 = some r) ∧ qa (kq ≤ k) ∧ qa (w'.heap[gb244]? = some (.cells #[(.slice A0_0 l0_0.length c0_0)] 31 (0, 0))) ∧ qa (Below w.heap.size w w'))
  case atStart => exact ⟨(0), yf, H', ⟨Nat.le_refl _⟩, ⟨by (with_reducible repeat (first | refine qg ?_ _ | refine qi ?_ | refine qf ?_ _)); exact BK244.out⟩, ⟨by repeat (first | (with_reducible first | exact HB.out | apply qc | apply qb | apply qd | refine qe ?_ GE244.out) | exact HB.out)⟩⟩
  case round =>
   clear H'
   (try clear c2); (try clear c2b0); (try clear c2b1); (try clear p2); (try clear hcz4_0); (try clear hcz6_0); (try clear hfz4_0); try clear hfz6_0
   obtain ⟨x13_1, rfl, HA, HK1, BK244, HB⟩ := hrel
   cases gk with
   | zero => exact absurd HA.out (by simp [ze.l0])
   | succ k1 =>
    have H := HA.out
    clear HA
    simp only [ze.l0] at H
    by_cases c7 : x13_1 < (l0_0.length : Int)
    ·rw [if_pos c7] at H
     have c7b0 : decide (x13_1 < (l0_0.length : Int)) = true := decide_eq_true c7
     clear c7
     by_cases c8 : 0 ≤ x13_1
     ·rw [if_pos c8] at H
      have c8b0 : decide (0 ≤ x13_1) = true := decide_eq_true c8
      clear c8
      by_cases c9 : x13_1 < (l0_0.length : Int)
      ·rw [if_pos c9] at H
       have c9b0 : decide (x13_1 < (l0_0.length : Int)) = true := decide_eq_true c9
       clear c9
       by_cases c10 : ((xx l0_0 x13_1).length : Int) = 0
       ·rw [if_pos c10] at H
        have c10b0 : (((xx l0_0 x13_1).length : Int) == 0) = true := beq_iff_eq.mpr c10
        have c10b1 : (((xx l0_0 x13_1).length : Int) != 0) = false := bne_eq_false_iff_eq.mpr c10
        clear c10
        obtain rfl := Option.some.inj H
        have p245 : 0 ≤ (x13_1 : Int) := of_decide_eq_true cz
        have q245 : x13_1 < (l0_0.length : Int) := of_decide_eq_true cz
        obtain ⟨ad245, A245_0, c245_0, e245, hx245_0, hl245_0, hi245_0⟩ := at_L5 HR0_0.out x13_1 p245 q245
        cases e245
        replace hx245_0 := (HB.out.cell (World.block_lt_of_cell? w _ hx245_0)).trans hx245_0
        have HR245_0 := qa.mk hi245_0
        have HC245_0 := qa.mk hl245_0
        clear hi245_0 hl245_0
        replace p245 := eq_true p245
        replace q245 := eq_true q245
        go_wp2
        go_ret
        exact ⟨by first | rfl | (simp [qu, qt] <;> rfl) | (simp [*, qu, qt] <;> rfl), by repeat (first | (with_reducible first | exact HB.out | apply qc | apply qb | apply qd | refine qe ?_ GE244.out) | exact HB.out)⟩
       ·rw [if_neg c10] at H
        have c10b0 : (((xx l0_0 x13_1).length : Int) == 0) = false := beq_eq_false_iff_ne.mpr c10
        have c10b1 : (((xx l0_0 x13_1).length : Int) != 0) = true := bne_iff_ne.mpr c10
        have c10b2 : ¬ ((xx l0_0 x13_1) = []) := fun h_ => c10 (by rw [h_]; rfl)
        by_cases c11 : ((xx l0_0 x13_1).length : Int) > 4
        ·rw [if_pos c11] at H
         have c11b0 : decide (4 < ((xx l0_0 x13_1).length : Int)) = true := decide_eq_true c11
         have c11b1 : decide (4 < (xx l0_0 x13_1).length) = true := decide_eq_true yg
         clear c11
         obtain rfl := Option.some.inj H
         have p245 : 0 ≤ (x13_1 : Int) := of_decide_eq_true cz
         have q245 : x13_1 < (l0_0.length : Int) := of_decide_eq_true cz
         obtain ⟨ad245, A245_0, c245_0, e245, hx245_0, hl245_0, hi245_0⟩ := at_L5 HR0_0.out x13_1 p245 q245
         cases e245
         replace hx245_0 := (HB.out.cell (World.block_lt_of_cell? w _ hx245_0)).trans hx245_0
         have HR245_0 := qa.mk hi245_0
         have HC245_0 := qa.mk hl245_0
         clear hi245_0 hl245_0
         replace p245 := eq_true p245
         replace q245 := eq_true q245
         go_wp2
         go_ret
         exact ⟨by first | rfl | (simp [qu, qt] <;> rfl) | (simp [*, qu, qt] <;> rfl), by repeat (first | (with_reducible first | exact HB.out | apply qc | apply qb | apply qd | refine qe ?_ GE244.out) | exact HB.out)⟩
        ·rw [if_neg c11] at H
         have c11b0 : decide (4 < ((xx l0_0 x13_1).length : Int)) = false := decide_eq_false c11
         have c11b1 : decide (4 < (xx l0_0 x13_1).length) = false := decide_eq_false yg
         clear c11
         replace H := Option.bind_eq_some_iff.mp H
         obtain ⟨t246, A120, H⟩ := H
         replace H : (if t246 = 0 then (ze.l0 k1 l0_0 (l0_0.length : Int) (wrap64 (x13_1 + 1))) else (some t246)) = some r := H
         have A12 := qa.mk A120
         clear A120
         by_cases c13 : t246 = 0
         ·rw [if_pos c13] at H
          have c13b0 : (t246 == 0) = true := beq_iff_eq.mpr c13
          have c13b1 : (t246 != 0) = false := bne_eq_false_iff_eq.mpr c13
          clear c13
          have H' := qa.mk H
          clear H
          have p245 : 0 ≤ (x13_1 : Int) := of_decide_eq_true cz
          have q245 : x13_1 < (l0_0.length : Int) := of_decide_eq_true cz
          obtain ⟨ad245, A245_0, c245_0, e245, hx245_0, hl245_0, hi245_0⟩ := at_L5 HR0_0.out x13_1 p245 q245
          cases e245
          replace hx245_0 := (HB.out.cell (World.block_lt_of_cell? w _ hx245_0)).trans hx245_0
          have HR245_0 := qa.mk hi245_0
          have HC245_0 := qa.mk hl245_0
          clear hi245_0 hl245_0
          replace p245 := eq_true p245
          replace q245 := eq_true q245
          go_wp2_with (first | ((with_reducible refine zn (f := 48) rfl ?_); refine kd (some 24) rfl rfl Tryz.func48 yj rfl #[.slice A245_0 (xx l0_0 x13_1).length c245_0] rfl yc ?_; (with_reducible refine (qk.calls k1 _ _ (xx l0_0 x13_1) t246 _ ?side1 ?side2 A12.out).mono ?_); (case side1 => repeat (first | exact (Kd.ki HR245_0.out HB.out) | (with_reducible refine Kd.kr ?_ _) | (with_reducible refine Kd.ks ?_ _) | (with_reducible refine Kd.ky ?_))); (case side2 => exact HC245_0.out); rintro e w14 ⟨rfl, hb⟩; refine ⟨_, rfl, ?_⟩; have n0_ := qa.mk (q9 (g := gb244) (o := .cells #[.slice (some ad245) l0_0.length c0_0] 31 (0, 0)) (by (with_reducible repeat (first | refine qg ?_ _ | refine qi ?_ | refine qf ?_ _)); exact BK244.out) hb); have n1_ := qa.mk (qp cas hb); clear BK244; clear HB; have BK244 := n0_; have HB := n1_; clear n0_ n1_; (try clear hb); (try clear hb2); (try clear hk); (try clear hi)))
          go_roundg k1
          case measure => have := HK1.out; omega
          case rel => exact ⟨(wrap64 (x13_1 + 1)), yf, H', ⟨by have := HK1.out; omega⟩, ⟨by (with_reducible repeat (first | refine qg ?_ _ | refine qi ?_ | refine qf ?_ _)); exact BK244.out⟩, ⟨by repeat (first | (with_reducible first | exact HB.out | apply qc | apply qb | apply qd | refine qe ?_ GE244.out) | exact HB.out)⟩⟩
         ·rw [if_neg c13] at H
          have c13b0 : (t246 == 0) = false := beq_eq_false_iff_ne.mpr c13
          have c13b1 : (t246 != 0) = true := bne_iff_ne.mpr c13
          obtain rfl := Option.some.inj H
          have p245 : 0 ≤ (x13_1 : Int) := of_decide_eq_true cz
          have q245 : x13_1 < (l0_0.length : Int) := of_decide_eq_true cz
          obtain ⟨ad245, A245_0, c245_0, e245, hx245_0, hl245_0, hi245_0⟩ := at_L5 HR0_0.out x13_1 p245 q245
          cases e245
          replace hx245_0 := (HB.out.cell (World.block_lt_of_cell? w _ hx245_0)).trans hx245_0
          have HR245_0 := qa.mk hi245_0
          have HC245_0 := qa.mk hl245_0
          clear hi245_0 hl245_0
          replace p245 := eq_true p245
          replace q245 := eq_true q245
          go_wp2_with (first | ((with_reducible refine zn (f := 48) rfl ?_); refine kd (some 24) rfl rfl Tryz.func48 yj rfl #[.slice A245_0 (xx l0_0 x13_1).length c245_0] rfl yc ?_; (with_reducible refine (qk.calls k1 _ _ (xx l0_0 x13_1) t246 _ ?side1 ?side2 A12.out).mono ?_); (case side1 => repeat (first | exact (Kd.ki HR245_0.out HB.out) | (with_reducible refine Kd.kr ?_ _) | (with_reducible refine Kd.ks ?_ _) | (with_reducible refine Kd.ky ?_))); (case side2 => exact HC245_0.out); rintro e w15 ⟨rfl, hb⟩; refine ⟨_, rfl, ?_⟩; have n0_ := qa.mk (q9 (g := gb244) (o := .cells #[.slice (some ad245) l0_0.length c0_0] 31 (0, 0)) (by (with_reducible repeat (first | refine qg ?_ _ | refine qi ?_ | refine qf ?_ _)); exact BK244.out) hb); have n1_ := qa.mk (qp cas hb); clear BK244; clear HB; have BK244 := n0_; have HB := n1_; clear n0_ n1_; (try clear hb); (try clear hb2); (try clear hk); (try clear hi)))
          go_ret
          exact ⟨by first | rfl | (simp [qu, qt] <;> rfl) | (simp [*, qu, qt] <;> rfl), by repeat (first | (with_reducible first | exact HB.out | apply qc | apply qb | apply qd | refine qe ?_ GE244.out) | exact HB.out)⟩
      ·rw [if_neg c9] at H
       exact absurd H yt
     ·rw [if_neg c8] at H
      exact absurd H yt
    ·rw [if_neg c7] at H
     have c7b0 : decide (x13_1 < (l0_0.length : Int)) = false := decide_eq_false c7
     clear c7
     obtain rfl := Option.some.inj H
     go_wp2
     go_ret
     exact ⟨by first | rfl | (simp [qu, qt] <;> rfl) | (simp [*, qu, qt] <;> rfl), by repeat (first | (with_reducible first | exact HB.out | apply qc | apply qb | apply qd | refine qe ?_ GE244.out) | exact HB.out)⟩
def lowC (c : Int) : Int := if 65 ≤ c ∧ c ≤ 90 then c + 32 else c
def lowTo (l : List Int) (i : Nat) : List Int := (l.take i).map lowC ++ l.drop i
theorem lowTo_length (l : List Int) (i : Nat) : (lowTo l i).length = l.length := by unfold lowTo; simp; omega
theorem lowTo_zero (l : List Int) : lowTo l 0 = l := by simp [lowTo]
theorem lowTo_all (l : List Int) : lowTo l l.length = l.map lowC := by simp [lowTo]
theorem lowTo_at (l : List Int) (i : Nat) (h : i < l.length) : (lowTo l i).getD i 0 = l.getD i 0 := by
 unfold lowTo
 have h1 : ((l.take i).map lowC).length = i := by simp; omega
 rw [List.getD_eq_getElem?_getD, List.getElem?_append_right yg, h1, Nat.sub_self, List.getElem?_drop, List.getD_eq_getElem?_getD]
 rfl
theorem lowTo_succ (l : List Int) (i : Nat) (h : i < l.length) : lowTo l (i + 1) = (lowTo l i).set i (lowC (l.getD i 0)) := by
 have h1 : ((l.take i).map lowC).length = i := by simp; omega
 unfold lowTo
 rw [List.set_append_right _ _ yg, h1, Nat.sub_self, List.drop_eq_getElem_cons h, List.set_cons_zero, List.take_succ_eq_append_getElem h, List.map_append, List.append_assoc]
 simp [List.getD_eq_getElem?_getD, List.getElem?_eq_getElem h]
def xl.f (a0 : ByteArray) : Option ByteArray := if a0.size ≤ 4294967280 then some (strOfNums ((bytesOf a0).map lowC)) else none
theorem blk_mark {W : World} {g t : Nat} {cs : Array Value} {mk : Nat × Nat} (h : W.heap[g]? = some (.cells cs t mk)) (i : Nat) (u : Value) : (W.setCell ⟨g, i, none⟩ u).heap[g]? = some (.cells (cs.set! i u) t mk) := by
 have hl := zz h
 rw [Array.getElem?_eq_getElem hl] at h
 injection h with h
 simp [World.setCell, hl, Array.getElem_modify, h]
theorem low_row {W : World} {g : Nat} {cs : Array Value} {mk : Nat × Nat} {l : List Int} (hb : W.heap[g]? = some (.cells cs 5 mk)) (hl : l.length ≤ 9223372036854775807) (hc : ∀ j, j < l.length → cs[j]? = some (.int .u8 (l.getD j 0))) :
  ReadsInt W .u8 (some ⟨g, 0, none⟩) l.length l := by
 refine ⟨rfl, hl, fun _ => ⟨⟨g, 0, none⟩, rfl, fun j hj => ?_⟩⟩
 rw [show (⟨g, 0, none⟩ : Addr).add j = ⟨g, j, none⟩ from add_plain g j, cell_of_row W g j cs _ mk hb]
 exact hc j hj
set_option maxHeartbeats 8000000 in
set_option maxRecDepth 100000 in
theorem xl.calls (a0 : ByteArray) (r : ByteArray) (w : World) (h : xl.f a0 = some r) :
  Calls Tryz.prog 59 #[.string a0] w fun e w' => e = .returned (.string r) ∧ Below w.heap.size w w' := by
 unfold xl.f at h
 split at h
 case isFalse => exact absurd h yt
 rename_i hn
 obtain rfl := Option.some.inj h
 clear h
 have hn63 := qa.mk (show a0.size ≤ 9223372036854775807 by omega)
 have hlen : (bytesOf a0).length = a0.size := bytesOf_length a0
 go_enter Tryz.func59, Tryz.ntmps59
 have hr := Lib.run_convert_string_bytes (P := Tryz.prog) w 9 59 5 a0 Tryz.underlying9 Tryz.underlying59 Tryz.underlying5
 go_wp2
 have hb1 := qa.mk (Lib.bytesWorld_at_new w 5 a0)
 have HB1 := qa.mk (bytes_below (Below.refl w.heap.size w) (Nat.le_refl _) 5 a0)
 have hcs := qa.mk (fun j (hj : j < a0.size) => (show (Lib.bytesCells w 5 a0)[j]? = some (.int .u8 ((bytesOf a0).getD j 0)) by
  have h2 := Lib.bytesWorld_cell w 5 a0 j hj
  rw [cell_of_row _ _ _ _ _ _ hb1.out] at h2
  rw [h2]
  have h3 : j < a0.data.toList.length := by rw [data_length]; exact hj
  simp [bytesOf, List.getD_eq_getElem?_getD, List.getElem?_eq_getElem h3]))
 have hmk : a0.size ≤ (Lib.bytesCells w 5 a0).size := by simp [Lib.bytesCells]
 generalize Lib.bytesCells w 5 a0 = cs0 at hb1 hcs hmk
 generalize Lib.bytesWorld w 5 a0 = W1 at hb1 HB1 ⊢
 generalize grownCap w a0.size 0 5 = cp at hr ⊢
 clear hr
 have GB := qa.mk (Nat.le_refl w.heap.size)
 generalize hg : w.heap.size = g at hb1 GB ⊢
 have GB := qa.mk (show w.heap.size ≤ g from Nat.le_of_eq hg)
 clear hg
 obtain ⟨mk, hmk0, hb1⟩ : ∃ mk : Nat × Nat, a0.size ≤ mk.1 ∧ qa (W1.heap[g]? = some (.cells cs0 5 mk)) := ⟨_, hmk, hb1⟩
 have HMK := qa.mk hmk0
 clear hmk hmk0
 go_loopg [9] a0.size (fun kq v9 w' => ∃ (i : Nat) (cs : Array Value), v9 = .int .i64 i ∧ qa (i + kq = a0.size) ∧ qa (w'.heap[g]? = some (.cells cs 5 mk)) ∧ qa (∀ j, j < a0.size → cs[j]? = some (.int .u8 ((lowTo (bytesOf a0) i).getD j 0))) ∧ qa (Below w.heap.size w w'))
 case atStart => exact ⟨0, cs0, rfl, ⟨by omega⟩, hb1, ⟨by rw [lowTo_zero]; exact hcs.out⟩, HB1⟩
 case round =>
  obtain ⟨i, cs, rfl, hi, hb, hc, HB⟩ := hrel
  clear hb1 hcs HB1
  cases gk with
  | zero =>
   obtain rfl : i = a0.size := by have := hi.out; omega
   have hlt : decide ((a0.size : Int) < (a0.size : Int)) = false := decide_eq_false yg
   have hcv := string_of_reads (P := Tryz.prog) (w := wr) (n := a0.size) (c := cp) (src := 59) (dst := 9) Tryz.underlying59 Tryz.underlying5 Tryz.underlying9 (by
    have h5 := low_row (l := lowTo (bytesOf a0) a0.size) hb.out (by rw [lowTo_length, hlen]; exact hn63.out) (by rw [lowTo_length, hlen]; exact hc.out)
    rw [lowTo_length, hlen] at h5
    exact h5)
   have hx : lowTo (bytesOf a0) a0.size = (bytesOf a0).map lowC := by rw [← hlen]; exact lowTo_all _
   rw [hx] at hcv
   clear hx hc
   go_wp2
   go_ret
   exact ⟨rfl, HB.out⟩
  | succ k1 =>
   have hlt0 : i < a0.size := by have := hi.out; omega
   have hlt : decide ((i : Int) < (a0.size : Int)) = true := decide_eq_true yg
   have p0 : (0 ≤ (i : Int)) = True := eq_true yg
   have p1 : ((i : Int) < (a0.size : Int)) = True := eq_true yg
   have hcz : wr.cell? ⟨g, i, none⟩ = some (.int .u8 ((bytesOf a0).getD i 0)) := by
    rw [cell_of_row wr g i cs _ mk hb.out, hc.out i hlt0, lowTo_at _ _ yg]
   have hfz : wr.frozen? ⟨g, i, none⟩ = false := by have h6 := hb.out; have h7 := HMK.out; simp [World.frozen?, h6]; omega
   obtain ⟨b, hbv⟩ : ∃ b, b = (bytesOf a0).getD i 0 := ⟨_, rfl⟩
   rw [← hbv] at hcz
   have HBV := qa.mk hbv
   clear hbv
   have nx : ∀ c : Int, ∀ j, j < a0.size → (cs.set! i (.int .u8 c))[j]? = some (.int .u8 (((lowTo (bytesOf a0) i).set i c).getD j 0)) := fun c j hj => by
    have hsz : i < cs.size := by
     have := hc.out i hlt0
     rcases Nat.lt_or_ge i cs.size with h | h
     ·exact h
     ·rw [Array.getElem?_eq_none h] at this; cases this
    rw [Array.set!_eq_setIfInBounds, Array.getElem?_setIfInBounds, List.getD_eq_getElem?_getD, List.getElem?_set]
    by_cases hij : i = j
    ·subst hij
     simp [hsz, lowTo_length, hlen, hlt0]
    ·simp only [hij, if_false]
     rw [hc.out j hj, List.getD_eq_getElem?_getD]
   have NX := qa.mk nx
   clear nx
   have wi := qa.mk (show wrap64 ((i : Int) + 1) = ((i + 1 : Nat) : Int) by unfold wrap64; omega)
   have HC : lowC b = b → qa (∀ j, j < a0.size → cs[j]? = some (.int .u8 ((lowTo (bytesOf a0) (i + 1)).getD j 0))) := fun h => ⟨fun j hj => by
    rw [lowTo_succ _ _ yg, ← HBV.out, h, hc.out j hj, List.getD_eq_getElem?_getD, List.getD_eq_getElem?_getD, List.getElem?_set]
    by_cases hij : i = j
    ·subst hij
     rw [if_pos rfl, if_pos (by rw [lowTo_length]; omega), HBV.out, ← lowTo_at _ _ yg, List.getD_eq_getElem?_getD, List.getElem?_eq_getElem (by rw [lowTo_length]; omega)]
     rfl
    ·rw [if_neg hij]⟩
   by_cases c1 : b ≥ 65
   ·have c1b : decide (b ≥ 65) = true := decide_eq_true c1
    by_cases c2 : b ≤ 90
    ·have c2b : decide (b ≤ 90) = true := decide_eq_true c2
     have LB : qa ((b + 32) % 256 = lowC b) := ⟨by unfold lowC; rw [if_pos ⟨c1, c2⟩]; omega⟩
     have hbk := hb
     clear c1 c2
     go_wp2
     go_roundg k1
     case measure => omega
     case rel => exact ⟨i + 1, _, by simp, ⟨by have := hi.out; omega⟩, ⟨blk_mark hb.out i _⟩, ⟨fun j hj => by rw [lowTo_succ _ _ yg, ← HBV.out, ← LB.out]; exact NX.out _ j hj⟩, ⟨qe HB.out GB.out⟩⟩
    ·have c2b : decide (b ≤ 90) = false := decide_eq_false c2
     have hl := HC (by unfold lowC; rw [if_neg yg])
     clear c1 c2 HC
     go_wp2
     go_roundg k1
     case measure => omega
     case rel => exact ⟨i + 1, cs, by simp, ⟨by have := hi.out; omega⟩, hb, hl, HB⟩
   ·have c1b : decide (b ≥ 65) = false := decide_eq_false c1
    have hl := HC (by unfold lowC; rw [if_neg yg])
    clear c1 HC
    go_wp2
    go_roundg k1
    case measure => omega
    case rel => exact ⟨i + 1, cs, by simp, ⟨by have := hi.out; omega⟩, hb, hl, HB⟩
end Go.Proofs.YthdoohfdminfgaaGreatDoor.C
end
section
namespace Go.Proofs.YthdoohfdminfgaaGreatDoor.C
open Go.RowKit Go.Proofs.YthdoohfdminfgaaGreatDoorW.PrintWords Go.Proofs.YthdoohfdminfgaaGreatDoorW.PrintLast Go.Proofs.YthdoohfdminfgaaGreatDoorW.PrintMore
attribute [local go_sem] xa z7 xq xr zx zy xc z8
set_option linter.unusedVariables false
set_option linter.unusedSimpArgs false
mutual
def qy.l0 : Nat → ByteArray → List Int → Int → Option (ByteArray)
 | 0, _, _, _ => none
 | k + 1, x0, x3, x4 => if x4 < (x0.size : Int) then (if 0 ≤ x4 then (if (bt x0 x4) = 32 then (if (x3.length : Int) > 0 then (if 0 ≤ (wrap64 ((x3.length : Int) - 1)) then (if (wrap64 ((x3.length : Int) - 1)) < (x3.length : Int) then (qy.j1 k x0 x3 x4 ((rd x3 (wrap64 ((x3.length : Int) - 1))) != 32)) else (none)) else (none)) else (qy.j1 k x0 x3 x4 false)) else (qy.j1 k x0 x3 x4 true)) else (none)) else (if (x3.length : Int) > 0 then (if 0 ≤ (wrap64 ((x3.length : Int) - 1)) then (if (wrap64 ((x3.length : Int) - 1)) < (x3.length : Int) then (if (rd x3 (wrap64 ((x3.length : Int) - 1))) = 32 then (if (wrap64 ((x3.length : Int) - 1)) ≤ (x3.length : Int) then (some (strOfNums (x3.take ((wrap64 ((x3.length : Int) - 1)) : Int).toNat))) else (none)) else (some (strOfNums x3))) else (none)) else (none)) else (some (strOfNums x3)))
def qy.j1 : Nat → ByteArray → List Int → Int → Bool → Option (ByteArray)
 | 0, _, _, _, _ => none
 | k + 1, x0, x3, x4, x30 => if x30 = true then (if 0 ≤ x4 then (if x4 < (x0.size : Int) then (if x3.length < 140737488355328 then (qy.l0 k x0 (x3 ++ [bt x0 x4]) (wrap64 (x4 + 1))) else (none)) else (none)) else (none)) else (qy.l0 k x0 x3 (wrap64 (x4 + 1)))
end
def qy.f (k : Nat) (a0 : ByteArray) : Option (ByteArray) := (xl.f a0).bind fun t247 => (qy.l0 k t247 ([] : List Int) 0)
theorem qy.xi : ∀ k, (∀ y0 y1 y2, LeO (qy.l0 k y0 y1 y2) (qy.l0 (k + 1) y0 y1 y2)) ∧ (∀ y0 y1 y2 y3, LeO (qy.j1 k y0 y1 y2 y3) (qy.j1 (k + 1) y0 y1 y2 y3))
 | 0 => ⟨fun _ _ _ r h => by simp [qy.l0] at h, fun _ _ _ _ r h => by simp [qy.j1] at h⟩
 | k + 1 => by
  obtain ⟨ih0, ih1⟩ := qy.xi k
  refine ⟨?_, ?_⟩
  ·intro y0 y1 y2
   unfold qy.l0
   repeat' first
   | (with_reducible exact ih0 _ _ _)
   | (with_reducible exact ih1 _ _ _ _)
   | (with_reducible exact LeO.refl _)
   | (with_reducible exact LeO.none _)
   | (with_reducible refine LeO.ite ?_ ?_)
   | (with_reducible refine LeO.bind ?_ (fun _ => ?_))
  ·intro y0 y1 y2 y3
   unfold qy.j1
   repeat' first
   | (with_reducible exact ih0 _ _ _)
   | (with_reducible exact ih1 _ _ _ _)
   | (with_reducible exact LeO.refl _)
   | (with_reducible exact LeO.none _)
   | (with_reducible refine LeO.ite ?_ ?_)
   | (with_reducible refine LeO.bind ?_ (fun _ => ?_))
theorem qy.mono : ∀ a0 k, LeO (qy.f k a0) (qy.f (k + 1) a0) := by
 intro a0 k
 obtain ⟨ih0, ih1⟩ := qy.xi k
 unfold qy.f
 repeat' first
   | (with_reducible exact ih0 _ _ _)
   | (with_reducible exact ih1 _ _ _ _)
   | (with_reducible exact LeO.refl _)
   | (with_reducible exact LeO.none _)
   | (with_reducible refine LeO.ite ?_ ?_)
   | (with_reducible refine LeO.bind ?_ (fun _ => ?_))
set_option maxHeartbeats 8000000 in
set_option maxRecDepth 100000 in
theorem qy.calls (k : Nat) (a0 : ByteArray) (r : ByteArray) (w : World) (h : qy.f k a0 = some r) :
  Calls Tryz.prog 176 #[.string a0] w fun e w' => e = .returned (.string r) ∧ Below w.heap.size w w' := by
 have HB := qa.mk (Below.refl w.heap.size w)
 have H : ((xl.f a0).bind fun t247 => (qy.l0 k t247 ([] : List Int) 0)) = some r := h
 clear h
 replace H := Option.bind_eq_some_iff.mp H
 obtain ⟨t247, A20, H⟩ := H
 replace H : (qy.l0 k t247 ([] : List Int) 0) = some r := H
 have A2 := qa.mk A20
 clear A20
 have H' := qa.mk H
 clear H
 go_enter Tryz.func176, Tryz.ntmps176
 go_wp2_with (first | ((with_reducible refine zn (f := 59) rfl ?_); refine kd (some 6) rfl rfl Tryz.func59 yj rfl #[.string a0] rfl yc ?_; (with_reducible refine (xl.calls a0 t247 _ A2.out).mono ?_); rintro e w3 ⟨rfl, hb⟩; refine ⟨_, rfl, ?_⟩; have n0_ := qa.mk (qp cu hb); clear HB; have HB := n0_; clear n0_; (try clear hb); (try clear hb2); (try clear hk); (try clear hi)))
 go_loopg [3, 4] k (fun kq v3 v4 w' => ∃ (x3_1 : List Int) (x4_1 : Int), v4 = .int .i64 x4_1 ∧ qa (qy.l0 kq t247 x3_1 x4_1 = some r) ∧ qa (kq ≤ k) ∧ qa (Kd.R (Kd.int .u8) 5 w' w.heap.size (fun _ => True) v3 x3_1) ∧ qa (Below w.heap.size w w'))
 case atStart => exact ⟨(([] : List Int)), (0), yf, H', ⟨Nat.le_refl _⟩, ⟨by first | exact Kd.R_nil _ _ _ _ _ | exact Kd.N_nil _ _ _ _ _ | exact Kd.V_nil _ _ _ _ _ | exact Kd.Q_nil _ _ _ _ _ | exact Kd.S_nil _ _ _ _ _⟩, ⟨by repeat (first | (with_reducible first | exact HB.out | apply qc | apply qb | apply qd) | exact HB.out)⟩⟩
 case round =>
  clear H'
  (try clear c1); try clear p2
  obtain ⟨x3_1, x4_1, rfl, HA, HK1, HO_3, HB⟩ := hrel
  cases gk with
  | zero => exact absurd HA.out (by simp [qy.l0])
  | succ k1 =>
   have H := HA.out
   clear HA
   simp only [qy.l0] at H
   by_cases c4 : x4_1 < (t247.size : Int)
   ·rw [if_pos c4] at H
    have c4b0 : decide (x4_1 < (t247.size : Int)) = true := decide_eq_true c4
    clear c4
    have HC5 := qa.mk H
    clear H
    go_upto_region 6 with (fail)
    go_cut [30] (fun v30 wc => ∃ (kq : Nat) (x30_4 : Bool), v30 = .bool x30_4 ∧ qa (qy.j1 kq t247 x3_1 x4_1 x30_4 = some r) ∧ qa (kq ≤ k1) ∧ qa (Kd.R (Kd.int .u8) 5 wc w.heap.size (fun _ => True) u3 x3_1) ∧ qa (Below w.heap.size w wc))
    case first =>
     have H := HC5.out
     clear HC5
     by_cases c6 : 0 ≤ x4_1
     ·rw [if_pos c6] at H
      have c6b0 : decide (0 ≤ x4_1) = true := decide_eq_true c6
      clear c6
      (first | rw [c6b0] | (simp only [zm, zq]; rw [c6b0]) | skip)
      by_cases c8 : (bt t247 x4_1) = 32
      ·rw [if_pos c8] at H
       have c8b0 : ((bt t247 x4_1) == 32) = true := beq_iff_eq.mpr c8
       have c8b1 : ((bt t247 x4_1) != 32) = false := bne_eq_false_iff_eq.mpr c8
       clear c8
       by_cases c9 : (x3_1.length : Int) > 0
       ·rw [if_pos c9] at H
        have c9b0 : decide (0 < (x3_1.length : Int)) = true := decide_eq_true c9
        have c9b1 : decide (0 < x3_1.length) = true := decide_eq_true yg
        clear c9
        obtain ⟨ji10, hji10⟩ : ∃ j_ : Int, (wrap64 ((x3_1.length : Int) - 1)) = j_ := ⟨_, rfl⟩
        replace H : (if 0 ≤ (ji10) then (if (ji10) < (x3_1.length : Int) then (qy.j1 k1 t247 x3_1 x4_1 ((rd x3_1 (ji10)) != 32)) else (none)) else (none)) = some r := by first | (rw [hji10] at H; exact H) | (simp only [hji10] at H ⊢; exact H)
        have hji10w : (IntKind.i64.wrap ((x3_1.length : Int) - 1)) = ji10 := (zm _).trans hji10
        by_cases c11 : 0 ≤ (ji10)
        ·rw [if_pos c11] at H
         have c11b0 : decide (0 ≤ (ji10)) = true := decide_eq_true c11
         clear c11
         by_cases c12 : (ji10) < (x3_1.length : Int)
         ·rw [if_pos c12] at H
          have c12b0 : decide ((ji10) < (x3_1.length : Int)) = true := decide_eq_true c12
          clear c12
          have H' := qa.mk H
          clear H
          have p7 : 0 ≤ (x4_1 : Int) := of_decide_eq_true cz
          have q7 : x4_1 < (t247.size : Int) := of_decide_eq_true cz
          have hx7 := km t247 x4_1
          replace p7 := eq_true p7
          replace q7 := eq_true q7
          obtain ⟨Ao13, co13, eo13⟩ := Kd.kj HO_3.out
          subst eo13
          have p248 : 0 ≤ ((ji10) : Int) := of_decide_eq_true cz
          have q248 : (ji10) < (x3_1.length : Int) := of_decide_eq_true cz
          obtain ⟨ad248, e248, hx248_0⟩ := Kd.at_int (Kd.xp HO_3.out).2.2 (ji10) p248 q248
          cases e248
          replace p248 := eq_true p248
          replace q248 := eq_true q248
          go_wp2
          go_meet
          case rel => exact ⟨_, (((rd x3_1 (ji10)) != 32)), (by first | rfl | (simp; done) | (simp only [← hji10] <;> (first | rfl | simp)) | (simp [*]; done)), H', ⟨by have := HK1.out; first | omega | exact Nat.le_refl _⟩, ⟨by (with_reducible repeat (first | apply Kd.zh | apply Kd.zg | apply Kd.zr)); exact HO_3.out⟩, ⟨by repeat (first | (with_reducible first | exact HB.out | apply qc | apply qb | apply qd) | exact HB.out)⟩⟩
         ·rw [if_neg c12] at H
          exact absurd H yt
        ·rw [if_neg c11] at H
         exact absurd H yt
       ·rw [if_neg c9] at H
        have c9b0 : decide (0 < (x3_1.length : Int)) = false := decide_eq_false c9
        have c9b1 : decide (0 < x3_1.length) = false := decide_eq_false yg
        clear c9
        have H' := qa.mk H
        clear H
        have p7 : 0 ≤ (x4_1 : Int) := of_decide_eq_true cz
        have q7 : x4_1 < (t247.size : Int) := of_decide_eq_true cz
        have hx7 := km t247 x4_1
        replace p7 := eq_true p7
        replace q7 := eq_true q7
        obtain ⟨Ao14, co14, eo14⟩ := Kd.kj HO_3.out
        subst eo14
        go_wp2
        go_meet
        case rel => exact ⟨_, (false), yf, H', ⟨by have := HK1.out; first | omega | exact Nat.le_refl _⟩, ⟨by (with_reducible repeat (first | apply Kd.zh | apply Kd.zg | apply Kd.zr)); exact HO_3.out⟩, ⟨by repeat (first | (with_reducible first | exact HB.out | apply qc | apply qb | apply qd) | exact HB.out)⟩⟩
      ·rw [if_neg c8] at H
       have c8b0 : ((bt t247 x4_1) == 32) = false := beq_eq_false_iff_ne.mpr c8
       have c8b1 : ((bt t247 x4_1) != 32) = true := bne_iff_ne.mpr c8
       have H' := qa.mk H
       clear H
       have p7 : 0 ≤ (x4_1 : Int) := of_decide_eq_true cz
       have q7 : x4_1 < (t247.size : Int) := of_decide_eq_true cz
       have hx7 := km t247 x4_1
       replace p7 := eq_true p7
       replace q7 := eq_true q7
       go_wp2
       go_meet
       case rel => exact ⟨_, (true), yf, H', ⟨by have := HK1.out; first | omega | exact Nat.le_refl _⟩, ⟨by (with_reducible repeat (first | apply Kd.zh | apply Kd.zg | apply Kd.zr)); exact HO_3.out⟩, ⟨by repeat (first | (with_reducible first | exact HB.out | apply qc | apply qb | apply qd) | exact HB.out)⟩⟩
     ·rw [if_neg c6] at H
      exact absurd H yt
    case rest =>
     clear HC5
     (try clear c1); (try clear p2); (try clear q2); (try clear hx2); (try clear c4); (try clear c4b0); (try clear c5); (try clear c6); (try clear c6b0); (try clear p6); (try clear p7); try clear q7
     (try clear hx7); (try clear c8); (try clear c8b0); (try clear c8b1); (try clear c9); (try clear c9b0); (try clear c9b1); (try clear c11); (try clear c11b0); (try clear c12); (try clear c12b0); try clear hx248_0
     (try clear p2); (try clear p248); (try clear p7); (try clear q248); try clear q7
     obtain ⟨kq, x30_4, rfl, HA, HJ4, HO_3, HB⟩ := hcut
     cases kq with
     | zero => exact absurd HA.out (by simp [qy.j1])
     | succ kj4 =>
      have H := HA.out
      clear HA
      simp only [qy.j1] at H
      by_cases c15 : x30_4 = true
      ·subst c15
       have H1 : (if 0 ≤ x4_1 then (if x4_1 < (t247.size : Int) then (if x3_1.length < 140737488355328 then (qy.l0 kj4 t247 (x3_1 ++ [bt t247 x4_1]) (wrap64 (x4_1 + 1))) else (none)) else (none)) else (none)) = some r := by rw [if_pos rfl] at H; exact H
       clear H
       have H := H1
       clear H1
       by_cases c16 : 0 ≤ x4_1
       ·rw [if_pos c16] at H
        have c16b0 : decide (0 ≤ x4_1) = true := decide_eq_true c16
        clear c16
        by_cases c17 : x4_1 < (t247.size : Int)
        ·rw [if_pos c17] at H
         have c17b0 : decide (x4_1 < (t247.size : Int)) = true := decide_eq_true c17
         clear c17
         by_cases c19 : x3_1.length < 140737488355328
         ·rw [if_pos c19] at H
          have LMc19 := qa.mk c19
          clear c19
          obtain ⟨y249, hy249⟩ : ∃ y_ : List Int, y_ = (x3_1 ++ [bt t247 x4_1]) := ⟨_, rfl⟩
          replace H : (qy.l0 kj4 t247 y249 (wrap64 (x4_1 + 1))) = some r := by first | (rw [hy249]; with_reducible exact H) | (have H2_ := (Option.bind_some _ _).symm.trans H; rw [hy249]; with_reducible exact H2_) | (have H2_ := (Option.bind_some _ _).symm.trans H; with_reducible exact H2_) | with_reducible exact H | (rw [hy249]; exact H) | exact H
          have Ny249 := qa.mk hy249
          clear hy249
          have H' := qa.mk H
          clear H
          have p18 : 0 ≤ (x4_1 : Int) := of_decide_eq_true cz
          have q18 : x4_1 < (t247.size : Int) := of_decide_eq_true cz
          have hx18 := km t247 x4_1
          replace p18 := eq_true p18
          replace q18 := eq_true q18
          go_wp2_with (first | ((with_reducible refine xo (b := .append) (xs := #[.tmp 31, .tmp 35]) rfl ?_); (try (refine kg (by rfl) ?_; dsimp only)); at_builtin; refine Kd.kv (Kd.int .u8) (w0 := w) w.heap.size rfl (.tmp 31) (.tmp 35) 59 5 (.int .u8 0) 1 rfl Tryz.underlying59 info5 rfl (by decide) yg u3 x3_1 (bt t247 x4_1) [.int .u8 (bt t247 x4_1)] (fun _ => True) (fun _ => False) rfl rfl ?aP (fun _ hk => hk.elim) ?aF ?aO ?aB ?aS ?aL ?_; (case aP => exact rfl); (case aB => exact cu); (case aF => exact (fun _ _ => trivial)); (case aO => exact cad); (case aS => exact (qr cu)); (case aL => have := LMc19.out; omega); intro v250 w20 ho hb hg hat; rw [← Ny249.out] at ho; have n0_ := qa.mk (hb); have n1_ := qa.mk (ho); clear HB; clear HO_3; have HB := n0_; have HO251 := n1_; clear n0_ n1_; clear ho hb hg hat))
          go_roundg kj4
          case measure => have := HK1.out; have := HJ4.out; omega
          case rel => exact ⟨(y249), (wrap64 (x4_1 + 1)), yf, H', ⟨by have := HK1.out; have := HJ4.out; omega⟩, ⟨by (with_reducible repeat (first | apply Kd.zh | apply Kd.zg | apply Kd.zr)); exact HO251.out⟩, ⟨by repeat (first | (with_reducible first | exact HB.out | apply qc | apply qb | apply qd) | exact HB.out)⟩⟩
         ·rw [if_neg c19] at H
          exact absurd H yt
        ·rw [if_neg c17] at H
         exact absurd H yt
       ·rw [if_neg c16] at H
        exact absurd H yt
      ·replace c15 := Bool.eq_false_iff.mpr c15
       subst c15
       have H1 : (qy.l0 kj4 t247 x3_1 (wrap64 (x4_1 + 1))) = some r := by rw [if_neg (show ¬ (false = true) by decide)] at H; exact H
       clear H
       have H := H1
       clear H1
       have H' := qa.mk H
       clear H
       go_wp2
       go_roundg kj4
       case measure => have := HK1.out; have := HJ4.out; omega
       case rel => exact ⟨(x3_1), (wrap64 (x4_1 + 1)), yf, H', ⟨by have := HK1.out; have := HJ4.out; omega⟩, ⟨by (with_reducible repeat (first | apply Kd.zh | apply Kd.zg | apply Kd.zr)); exact HO_3.out⟩, ⟨by repeat (first | (with_reducible first | exact HB.out | apply qc | apply qb | apply qd) | exact HB.out)⟩⟩
   ·rw [if_neg c4] at H
    have c4b0 : decide (x4_1 < (t247.size : Int)) = false := decide_eq_false c4
    clear c4
    by_cases c21 : (x3_1.length : Int) > 0
    ·rw [if_pos c21] at H
     have c21b0 : decide (0 < (x3_1.length : Int)) = true := decide_eq_true c21
     have c21b1 : decide (0 < x3_1.length) = true := decide_eq_true yg
     clear c21
     obtain ⟨ji22, hji22⟩ : ∃ j_ : Int, (wrap64 ((x3_1.length : Int) - 1)) = j_ := ⟨_, rfl⟩
     replace H : (if 0 ≤ (ji22) then (if (ji22) < (x3_1.length : Int) then (if (rd x3_1 (ji22)) = 32 then (if (ji22) ≤ (x3_1.length : Int) then (some (strOfNums (x3_1.take ((ji22) : Int).toNat))) else (none)) else (some (strOfNums x3_1))) else (none)) else (none)) = some r := by first | (rw [hji22] at H; exact H) | (simp only [hji22] at H ⊢; exact H)
     have hji22w : (IntKind.i64.wrap ((x3_1.length : Int) - 1)) = ji22 := (zm _).trans hji22
     by_cases c23 : 0 ≤ (ji22)
     ·rw [if_pos c23] at H
      have c23b0 : decide (0 ≤ (ji22)) = true := decide_eq_true c23
      clear c23
      by_cases c24 : (ji22) < (x3_1.length : Int)
      ·rw [if_pos c24] at H
       have c24b0 : decide ((ji22) < (x3_1.length : Int)) = true := decide_eq_true c24
       clear c24
       by_cases c25 : (rd x3_1 (ji22)) = 32
       ·rw [if_pos c25] at H
        have c25b0 : ((rd x3_1 (ji22)) == 32) = true := beq_iff_eq.mpr c25
        have c25b1 : ((rd x3_1 (ji22)) != 32) = false := bne_eq_false_iff_eq.mpr c25
        clear c25
        by_cases c26 : (ji22) ≤ (x3_1.length : Int)
        ·rw [if_pos c26] at H
         have c26b0 := eq_true c26
         have c26b1 : decide ((ji22) ≤ (x3_1.length : Int)) = true := decide_eq_true c26
         clear c26
         obtain ⟨y253, hy253⟩ : ∃ y_ : List Int, y_ = (x3_1.take ((ji22) : Int).toNat) := ⟨_, rfl⟩
         replace H : (some (strOfNums y253)) = some r := by first | (rw [hy253]; with_reducible exact H) | (have H2_ := (Option.bind_some _ _).symm.trans H; rw [hy253]; with_reducible exact H2_) | (have H2_ := (Option.bind_some _ _).symm.trans H; with_reducible exact H2_) | with_reducible exact H | (rw [hy253]; exact H) | exact H
         have Ny253 := qa.mk hy253
         clear hy253
         obtain rfl := Option.some.inj H
         obtain ⟨Ao27, co27, eo27⟩ := Kd.kj HO_3.out
         subst eo27
         have p252 : 0 ≤ ((ji22) : Int) := of_decide_eq_true cz
         have q252 : (ji22) < (x3_1.length : Int) := of_decide_eq_true cz
         obtain ⟨ad252, e252, hx252_0⟩ := Kd.at_int (Kd.xp HO_3.out).2.2 (ji22) p252 q252
         cases e252
         replace p252 := eq_true p252
         replace q252 := eq_true q252
         have q28 : ((ji22) : Int) ≤ ((x3_1.length : Int) : Int) := of_decide_eq_true cz
         obtain ⟨i028, hi028, _, hsz28, _⟩ := info_parts info5
         have hcut28 := cut_to (P := Tryz.prog) 59 5 .i64 Tryz.underlying59 hi028 (some ad252) x3_1.length co27 (ji22) (of_decide_eq_true cz) q28 (Kd.xp HO_3.out).2.1
         have hr28 := Kd.R_take (m := ((ji22) : Int).toNat) HO_3.out yg
         have hy28 : y253.length = ((ji22) : Int).toNat := (by rw [Ny253.out, List.length_take]; omega)
         rw [← Ny253.out] at hr28
         rw [← hy28] at hr28 hcut28
         clear hy28 hi028 hsz28 HO_3
         have HO255 := qa.mk hr28
         clear hr28
         replace q28 := eq_true q28
         have hcv29 := own_string (P := Tryz.prog) Tryz.underlying59 Tryz.underlying5 Tryz.underlying9 (Kd.own_of_R HO255.out)
         go_wp2
         go_ret
         exact ⟨by first | rfl | (simp [qu, qt] <;> rfl) | (simp only [← hji22]; first | rfl | (simp [qu, qt] <;> rfl)) | (simp [*, qu, qt] <;> rfl), by repeat (first | (with_reducible first | exact HB.out | apply qc | apply qb | apply qd) | exact HB.out)⟩
        ·rw [if_neg c26] at H
         exact absurd H yt
       ·rw [if_neg c25] at H
        have c25b0 : ((rd x3_1 (ji22)) == 32) = false := beq_eq_false_iff_ne.mpr c25
        have c25b1 : ((rd x3_1 (ji22)) != 32) = true := bne_iff_ne.mpr c25
        obtain rfl := Option.some.inj H
        obtain ⟨Ao30, co30, eo30⟩ := Kd.kj HO_3.out
        subst eo30
        have p252 : 0 ≤ ((ji22) : Int) := of_decide_eq_true cz
        have q252 : (ji22) < (x3_1.length : Int) := of_decide_eq_true cz
        obtain ⟨ad252, e252, hx252_0⟩ := Kd.at_int (Kd.xp HO_3.out).2.2 (ji22) p252 q252
        cases e252
        replace p252 := eq_true p252
        replace q252 := eq_true q252
        have hcv31 := own_string (P := Tryz.prog) Tryz.underlying59 Tryz.underlying5 Tryz.underlying9 (Kd.own_of_R HO_3.out)
        go_wp2
        go_ret
        exact ⟨by first | rfl | (simp [qu, qt] <;> rfl) | (simp only [← hji22]; first | rfl | (simp [qu, qt] <;> rfl)) | (simp [*, qu, qt] <;> rfl), by repeat (first | (with_reducible first | exact HB.out | apply qc | apply qb | apply qd) | exact HB.out)⟩
      ·rw [if_neg c24] at H
       exact absurd H yt
     ·rw [if_neg c23] at H
      exact absurd H yt
    ·rw [if_neg c21] at H
     have c21b0 : decide (0 < (x3_1.length : Int)) = false := decide_eq_false c21
     have c21b1 : decide (0 < x3_1.length) = false := decide_eq_false yg
     clear c21
     obtain rfl := Option.some.inj H
     obtain ⟨Ao32, co32, eo32⟩ := Kd.kj HO_3.out
     subst eo32
     have hcv33 := own_string (P := Tryz.prog) Tryz.underlying59 Tryz.underlying5 Tryz.underlying9 (Kd.own_of_R HO_3.out)
     go_wp2
     go_ret
     exact ⟨by first | rfl | (simp [qu, qt] <;> rfl) | (simp [*, qu, qt] <;> rfl), by repeat (first | (with_reducible first | exact HB.out | apply qc | apply qb | apply qd) | exact HB.out)⟩
end Go.Proofs.YthdoohfdminfgaaGreatDoor.C
end
section
namespace Go.Proofs.YthdoohfdminfgaaGreatDoor.C
open Go.RowKit Go.Proofs.YthdoohfdminfgaaGreatDoorW.PrintWords Go.Proofs.YthdoohfdminfgaaGreatDoorW.PrintLast Go.Proofs.YthdoohfdminfgaaGreatDoorW.PrintMore
attribute [local go_sem] xa z7 xq xr zx zy xc z8
set_option linter.unusedVariables false
set_option linter.unusedSimpArgs false
def zv.f (k : Nat) (a0 : ByteArray) (a1 : ByteArray) : Option (Bool) := (qy.f k a0).bind fun t256 => ((qy.f k a1).bind fun t257 => (some (t256.toList == t257.toList)))
theorem zv.mono : ∀ a0 a1 k, LeO (zv.f k a0 a1) (zv.f (k + 1) a0 a1) := by
 intro a0 a1 k
 unfold zv.f
 repeat' first
   | (with_reducible exact qy.mono _ _)
   | (with_reducible exact LeO.refl _)
   | (with_reducible exact LeO.none _)
   | (with_reducible refine LeO.ite ?_ ?_)
   | (with_reducible refine LeO.bind ?_ (fun _ => ?_))
set_option maxHeartbeats 8000000 in
set_option maxRecDepth 100000 in
theorem zv.calls (k : Nat) (a0 : ByteArray) (a1 : ByteArray) (r : Bool) (w : World) (h : zv.f k a0 a1 = some r) :
  Calls Tryz.prog 157 #[.string a0, .string a1] w fun e w' => e = .returned (.bool r) ∧ Below w.heap.size w w' := by
 have HB := qa.mk (Below.refl w.heap.size w)
 have H : ((qy.f k a0).bind fun t256 => ((qy.f k a1).bind fun t257 => (some (t256.toList == t257.toList)))) = some r := h
 clear h
 replace H := Option.bind_eq_some_iff.mp H
 obtain ⟨t256, A30, H⟩ := H
 replace H : ((qy.f k a1).bind fun t257 => (some (t256.toList == t257.toList))) = some r := H
 have A3 := qa.mk A30
 clear A30
 replace H := Option.bind_eq_some_iff.mp H
 obtain ⟨t257, A40, H⟩ := H
 replace H : (some (t256.toList == t257.toList)) = some r := H
 have A4 := qa.mk A40
 clear A40
 obtain rfl := Option.some.inj H
 go_enter Tryz.func157, Tryz.ntmps157
 go_wp2_with (first | ((with_reducible refine zn (f := 176) rfl ?_); refine kd (some 6) rfl rfl Tryz.func176 yj rfl #[.string a0] rfl yc ?_; (with_reducible refine (qy.calls k a0 t256 _ A3.out).mono ?_); rintro e w5 ⟨rfl, hb⟩; refine ⟨_, rfl, ?_⟩; have n0_ := qa.mk (qp cu hb); clear HB; have HB := n0_; clear n0_; (try clear hb); (try clear hb2); (try clear hk); (try clear hi)) | ((with_reducible refine zn (f := 176) rfl ?_); refine kd (some 8) rfl rfl Tryz.func176 yj rfl #[.string a1] rfl yc ?_; (with_reducible refine (qy.calls k a1 t257 _ A4.out).mono ?_); rintro e w6 ⟨rfl, hb⟩; refine ⟨_, rfl, ?_⟩; have n0_ := qa.mk (qp cu hb); clear HB; have HB := n0_; clear n0_; (try clear hb); (try clear hb2); (try clear hk); (try clear hi)))
 go_ret
 exact ⟨by first | rfl | (simp [qu, qt] <;> rfl) | (simp [*, qu, qt] <;> rfl), by repeat (first | (with_reducible first | exact HB.out | apply qc | apply qb | apply qd) | exact HB.out)⟩
def zd.l0 : Nat → List (S40) → Int → Int → ByteArray → Int → ByteArray → Option (Bool)
 | 0, _, _, _, _, _, _ => none
 | k + 1, x7, x8, x9, x259000, x259001, x259002 => if x9 < x8 then (if 0 ≤ x9 then (if x9 < (x7.length : Int) then (if ((qn x7 x9).f0).toList = x259000.toList then ((zv.f k ((qn x7 x9).f2) x259002).bind fun t261 => (if t261 = true then (some true) else (zd.l0 k x7 x8 (wrap64 (x9 + 1)) x259000 x259001 x259002))) else (zd.l0 k x7 x8 (wrap64 (x9 + 1)) x259000 x259001 x259002)) else (none)) else (none)) else (some false)
def zd.f (k : Nat) (l0 : List (S40)) (a1_0 : ByteArray) (a1_1 : Int) (a1_2 : ByteArray) : Option (Bool) := zd.l0 k l0 (l0.length : Int) 0 a1_0 a1_1 a1_2
theorem zd.xi : ∀ k, (∀ y0 y1 y2 y3 y4 y5, LeO (zd.l0 k y0 y1 y2 y3 y4 y5) (zd.l0 (k + 1) y0 y1 y2 y3 y4 y5))
 | 0 => fun _ _ _ _ _ _ r h => by simp [zd.l0] at h
 | k + 1 => by
  have ih0 := zd.xi k
  ·intro y0 y1 y2 y3 y4 y5
   unfold zd.l0
   repeat' first
   | (with_reducible exact ih0 _ _ _ _ _ _)
   | (with_reducible exact zv.mono _ _ _)
   | (with_reducible exact LeO.refl _)
   | (with_reducible exact LeO.none _)
   | (with_reducible refine LeO.ite ?_ ?_)
   | (with_reducible refine LeO.bind ?_ (fun _ => ?_))
theorem zd.mono : ∀ a0 a1 a2 a3 k, LeO (zd.f k a0 a1 a2 a3) (zd.f (k + 1) a0 a1 a2 a3) := by
 intro a0 a1 a2 a3 k
 have ih0 := zd.xi k
 unfold zd.f
 repeat' first
   | (with_reducible exact ih0 _ _ _ _ _ _)
   | (with_reducible exact zv.mono _ _ _)
   | (with_reducible exact LeO.refl _)
   | (with_reducible exact LeO.none _)
   | (with_reducible refine LeO.ite ?_ ?_)
   | (with_reducible refine LeO.bind ?_ (fun _ => ?_))
set_option maxHeartbeats 8000000 in
set_option maxRecDepth 100000 in
theorem zd.calls (k : Nat) (A0 : Option Addr) (c0 : Nat) (l0 : List (S40)) (a1_0 : ByteArray) (a1_1 : Int) (a1_2 : ByteArray) (r : Bool) (w : World) (hr0 : Kd.C k40 w A0 l0.length l0) (hc0 : l0.length ≤ c0) (h : zd.f k l0 a1_0 a1_1 a1_2 = some r) :
  Calls Tryz.prog 137 #[.slice A0 l0.length c0, .agg #[.string a1_0, .int .i64 a1_1, .string a1_2]] w fun e w' => e = .returned (.bool r) ∧ Below w.heap.size w w' := by
 have hu40 := Tryz.underlying40
 have HR0 := qa.mk hr0
 have HC0 := qa.mk hc0
 clear hr0 hc0
 have HB := qa.mk (Below.refl w.heap.size w)
 have H : (zd.l0 k l0 (l0.length : Int) 0 a1_0 a1_1 a1_2) = some r := h
 clear h
 have H' := qa.mk H
 clear H
 go_enter Tryz.func137, Tryz.ntmps137
 go_wp2_with (first | ((with_reducible refine zl (N := 3) rfl ?_); refine zo ?hg (N := 3) ?hd (cs := #[.string a1_0, .int .i64 a1_1, .string a1_2]) (t := 40) ?hr ?_; (case hd => rfl); (case hg => rfl); (case hr => first | (go_simp; done) | (go_simp; rfl)); intro gb258 hg w3 hbox hb; have n0_ := qa.mk (qp cu hb); have n1_ := qa.mk (hbox); have n2_ := qa.mk ((by rw [hg]; exact (qr cu) : w.heap.size ≤ gb258)); have n3_ := qa.mk ((by rw [hg]; exact (qr cu) : w.heap.size ≤ gb258)); clear HB; have HB := n0_; have BK258 := n1_; have GW258 := n2_; have GE258 := n3_; clear n0_ n1_ n2_ n3_; clear hb hbox hg))
 go_loopg [9] k (fun kq v9 w' => ∃ (x9_1 : Int), v9 = .int .i64 x9_1 ∧ qa (zd.l0 kq l0 (l0.length : Int) x9_1 a1_0 a1_1 a1_2 = some r) ∧ qa (kq ≤ k) ∧ qa (w'.heap[gb258]? = some (.cells #[.string a1_0, .int .i64 a1_1, .string a1_2] 40 (0, 0))) ∧ qa (Below w.heap.size w w'))
 case atStart => exact ⟨(0), yf, H', ⟨Nat.le_refl _⟩, ⟨by (with_reducible repeat (first | refine qg ?_ _ | refine qi ?_ | refine qf ?_ _)); exact BK258.out⟩, ⟨by repeat (first | (with_reducible first | exact HB.out | apply qc | apply qb | apply qd | refine qe ?_ GE258.out) | exact HB.out)⟩⟩
 case round =>
  clear H'
  (try clear c1); try clear p2
  obtain ⟨x9_1, rfl, HA, HK1, BK258, HB⟩ := hrel
  cases gk with
  | zero => exact absurd HA.out (by simp [zd.l0])
  | succ k1 =>
   have H := HA.out
   clear HA
   simp only [zd.l0] at H
   by_cases c4 : x9_1 < (l0.length : Int)
   ·rw [if_pos c4] at H
    have c4b0 : decide (x9_1 < (l0.length : Int)) = true := decide_eq_true c4
    clear c4
    by_cases c5 : 0 ≤ x9_1
    ·rw [if_pos c5] at H
     have c5b0 : decide (0 ≤ x9_1) = true := decide_eq_true c5
     clear c5
     by_cases c6 : x9_1 < (l0.length : Int)
     ·rw [if_pos c6] at H
      have c6b0 : decide (x9_1 < (l0.length : Int)) = true := decide_eq_true c6
      clear c6
      by_cases c7 : ((qn l0 x9_1).f0).toList = a1_0.toList
      ·rw [if_pos c7] at H
       have c7b0 : (((qn l0 x9_1).f0).toList == a1_0.toList) = true := beq_iff_eq.mpr c7
       have c7b1 : (((qn l0 x9_1).f0).toList != a1_0.toList) = false := bne_eq_false_iff_eq.mpr c7
       clear c7
       replace H := Option.bind_eq_some_iff.mp H
       obtain ⟨t261, A80, H⟩ := H
       replace H : (if t261 = true then (some true) else (zd.l0 k1 l0 (l0.length : Int) (wrap64 (x9_1 + 1)) a1_0 a1_1 a1_2)) = some r := H
       have A8 := qa.mk A80
       clear A80
       by_cases c9 : t261 = true
       ·subst c9
        have H1 : (some true) = some r := by rw [if_pos rfl] at H; exact H
        clear H
        have H := H1
        clear H1
        obtain rfl := Option.some.inj H
        have p259 : 0 ≤ (x9_1 : Int) := of_decide_eq_true cz
        have q259 : x9_1 < (l0.length : Int) := of_decide_eq_true cz
        obtain ⟨ad259, e259, hx259_0, hx259_1, hx259_2⟩ := k5 HR0.out x9_1 p259 q259
        cases e259
        replace hx259_0 := (HB.out.cell (World.block_lt_of_cell? w _ hx259_0)).trans hx259_0
        replace hx259_1 := (HB.out.cell (World.block_lt_of_cell? w _ hx259_1)).trans hx259_1
        replace hx259_2 := (HB.out.cell (World.block_lt_of_cell? w _ hx259_2)).trans hx259_2
        replace p259 := eq_true p259
        replace q259 := eq_true q259
        go_wp2_with (first | ((with_reducible refine zl (N := 6) rfl ?_); refine zo ?hg (N := 6) ?hd (cs := #[.string (⟨#[]⟩ : ByteArray), .int .i64 0, .string (⟨#[]⟩ : ByteArray)]) (t := 40) ?hr ?_; (case hd => rfl); (case hg => rfl); (case hr => first | (go_simp; done) | (go_simp; rfl)); intro gb260 hg w10 hbox hb; have n0_ := qa.mk (q9 (g := gb258) (o := .cells #[.string a1_0, .int .i64 a1_1, .string a1_2] 40 (0, 0)) ui hb); have n1_ := qa.mk (qp uf hb); have n2_ := qa.mk (hbox); have n3_ := qa.mk ((by rw [hg]; exact (qr uf) : w.heap.size ≤ gb260)); have n4_ := qa.mk ((by rw [hg]; exact (qr uf) : w.heap.size ≤ gb260)); have n5_ := qa.mk ((by rw [hg]; exact Nat.ne_of_lt (zz (g := gb258) (o := .cells #[.string a1_0, .int .i64 a1_1, .string a1_2] 40 (0, 0)) ui) : gb258 ≠ gb260)); have n6_ := qa.mk ((by rw [hg]; exact Nat.ne_of_gt (zz (g := gb258) (o := .cells #[.string a1_0, .int .i64 a1_1, .string a1_2] 40 (0, 0)) ui) : gb260 ≠ gb258)); clear BK258; clear HB; have BK258 := n0_; have HB := n1_; have BK260 := n2_; have GW260 := n3_; have GE260 := n4_; have NB258_260 := n5_; have NB260_258 := n6_; clear n0_ n1_ n2_ n3_ n4_ n5_ n6_; clear hb hbox hg; have hnb11 := NB260_258.out; have hnc11 := NB258_260.out; have hcz12_0 : w10.cell? ⟨gb260, 0, none⟩ = some (.string (⟨#[]⟩ : ByteArray)) := (ql BK260.out 0).trans rfl; have hcz12_1 : w10.cell? ⟨gb260, 1, none⟩ = some (.int .i64 0) := (ql BK260.out 1).trans rfl; have hcz12_2 : w10.cell? ⟨gb260, 2, none⟩ = some (.string (⟨#[]⟩ : ByteArray)) := (ql BK260.out 2).trans rfl; have hfz12_0 := qo BK260.out 0; have hfz12_1 := qo BK260.out 1; have hfz12_2 := qo BK260.out 2; have hcz13_0 : w10.cell? ⟨gb258, 0, none⟩ = some (.string a1_0) := (ql BK258.out 0).trans rfl; have hcz13_1 : w10.cell? ⟨gb258, 1, none⟩ = some (.int .i64 a1_1) := (ql BK258.out 1).trans rfl; have hcz13_2 : w10.cell? ⟨gb258, 2, none⟩ = some (.string a1_2) := (ql BK258.out 2).trans rfl; have hfz13_0 := qo BK258.out 0; have hfz13_1 := qo BK258.out 1; have hfz13_2 := qo BK258.out 2) | (go_at_call 157; (with_reducible refine (zv.calls k1 ((qn l0 x9_1).f2) a1_2 true _ A8.out).mono ?_); rintro e w14 ⟨rfl, hb⟩; have n0_ := qa.mk (q9 (g := gb258) (o := .cells #[.string a1_0, .int .i64 a1_1, .string a1_2] 40 (0, 0)) fw hb); have n1_ := qa.mk (q9 (g := gb260) (o := .cells #[.string ((qn l0 x9_1).f0), .int .i64 ((qn l0 x9_1).f1), .string ((qn l0 x9_1).f2)] 40 (0, 0)) (by (with_reducible repeat (first | refine qg ?_ _ | refine qi ?_ | refine qf ?_ _)); refine zu (cs := #[.string ((qn l0 x9_1).f0), .int .i64 ((qn l0 x9_1).f1), .string (⟨#[]⟩ : ByteArray)]) ?_ 2 _ rfl; (with_reducible repeat (first | refine qg ?_ _ | refine qi ?_ | refine qf ?_ _)); refine zu (cs := #[.string ((qn l0 x9_1).f0), .int .i64 0, .string (⟨#[]⟩ : ByteArray)]) ?_ 1 _ rfl; (with_reducible repeat (first | refine qg ?_ _ | refine qi ?_ | refine qf ?_ _)); refine zu (cs := #[.string (⟨#[]⟩ : ByteArray), .int .i64 0, .string (⟨#[]⟩ : ByteArray)]) ?_ 0 _ rfl; (with_reducible repeat (first | refine qg ?_ _ | refine qi ?_ | refine qf ?_ _)); exact BK260.out) hb); have n2_ := qa.mk (qp cao hb); clear BK258; clear BK260; clear HB; have BK258 := n0_; have BK260 := n1_; have HB := n2_; clear n0_ n1_ n2_; (try clear hb); (try clear hb2); (try clear hk); (try clear hi)))
        go_ret
        exact ⟨by first | rfl | (simp [qu, qt] <;> rfl) | (simp [*, qu, qt] <;> rfl), by repeat (first | (with_reducible first | exact HB.out | apply qc | apply qb | apply qd | refine qe ?_ GE258.out | refine qe ?_ GE260.out) | exact HB.out)⟩
       ·replace c9 := Bool.eq_false_iff.mpr c9
        subst c9
        have H1 : (zd.l0 k1 l0 (l0.length : Int) (wrap64 (x9_1 + 1)) a1_0 a1_1 a1_2) = some r := by rw [if_neg (show ¬ (false = true) by decide)] at H; exact H
        clear H
        have H := H1
        clear H1
        have H' := qa.mk H
        clear H
        have p259 : 0 ≤ (x9_1 : Int) := of_decide_eq_true cz
        have q259 : x9_1 < (l0.length : Int) := of_decide_eq_true cz
        obtain ⟨ad259, e259, hx259_0, hx259_1, hx259_2⟩ := k5 HR0.out x9_1 p259 q259
        cases e259
        replace hx259_0 := (HB.out.cell (World.block_lt_of_cell? w _ hx259_0)).trans hx259_0
        replace hx259_1 := (HB.out.cell (World.block_lt_of_cell? w _ hx259_1)).trans hx259_1
        replace hx259_2 := (HB.out.cell (World.block_lt_of_cell? w _ hx259_2)).trans hx259_2
        replace p259 := eq_true p259
        replace q259 := eq_true q259
        go_wp2_with (first | ((with_reducible refine zl (N := 6) rfl ?_); refine zo ?hg (N := 6) ?hd (cs := #[.string (⟨#[]⟩ : ByteArray), .int .i64 0, .string (⟨#[]⟩ : ByteArray)]) (t := 40) ?hr ?_; (case hd => rfl); (case hg => rfl); (case hr => first | (go_simp; done) | (go_simp; rfl)); intro gb260 hg w15 hbox hb; have n0_ := qa.mk (q9 (g := gb258) (o := .cells #[.string a1_0, .int .i64 a1_1, .string a1_2] 40 (0, 0)) ui hb); have n1_ := qa.mk (qp uf hb); have n2_ := qa.mk (hbox); have n3_ := qa.mk ((by rw [hg]; exact (qr uf) : w.heap.size ≤ gb260)); have n4_ := qa.mk ((by rw [hg]; exact (qr uf) : w.heap.size ≤ gb260)); have n5_ := qa.mk ((by rw [hg]; exact Nat.ne_of_lt (zz (g := gb258) (o := .cells #[.string a1_0, .int .i64 a1_1, .string a1_2] 40 (0, 0)) ui) : gb258 ≠ gb260)); have n6_ := qa.mk ((by rw [hg]; exact Nat.ne_of_gt (zz (g := gb258) (o := .cells #[.string a1_0, .int .i64 a1_1, .string a1_2] 40 (0, 0)) ui) : gb260 ≠ gb258)); clear BK258; clear HB; have BK258 := n0_; have HB := n1_; have BK260 := n2_; have GW260 := n3_; have GE260 := n4_; have NB258_260 := n5_; have NB260_258 := n6_; clear n0_ n1_ n2_ n3_ n4_ n5_ n6_; clear hb hbox hg; have hnb16 := NB260_258.out; have hnc16 := NB258_260.out; have hcz17_0 : w15.cell? ⟨gb260, 0, none⟩ = some (.string (⟨#[]⟩ : ByteArray)) := (ql BK260.out 0).trans rfl; have hcz17_1 : w15.cell? ⟨gb260, 1, none⟩ = some (.int .i64 0) := (ql BK260.out 1).trans rfl; have hcz17_2 : w15.cell? ⟨gb260, 2, none⟩ = some (.string (⟨#[]⟩ : ByteArray)) := (ql BK260.out 2).trans rfl; have hfz17_0 := qo BK260.out 0; have hfz17_1 := qo BK260.out 1; have hfz17_2 := qo BK260.out 2; have hcz18_0 : w15.cell? ⟨gb258, 0, none⟩ = some (.string a1_0) := (ql BK258.out 0).trans rfl; have hcz18_1 : w15.cell? ⟨gb258, 1, none⟩ = some (.int .i64 a1_1) := (ql BK258.out 1).trans rfl; have hcz18_2 : w15.cell? ⟨gb258, 2, none⟩ = some (.string a1_2) := (ql BK258.out 2).trans rfl; have hfz18_0 := qo BK258.out 0; have hfz18_1 := qo BK258.out 1; have hfz18_2 := qo BK258.out 2) | (go_at_call 157; (with_reducible refine (zv.calls k1 ((qn l0 x9_1).f2) a1_2 false _ A8.out).mono ?_); rintro e w19 ⟨rfl, hb⟩; have n0_ := qa.mk (q9 (g := gb258) (o := .cells #[.string a1_0, .int .i64 a1_1, .string a1_2] 40 (0, 0)) fw hb); have n1_ := qa.mk (q9 (g := gb260) (o := .cells #[.string ((qn l0 x9_1).f0), .int .i64 ((qn l0 x9_1).f1), .string ((qn l0 x9_1).f2)] 40 (0, 0)) (by (with_reducible repeat (first | refine qg ?_ _ | refine qi ?_ | refine qf ?_ _)); refine zu (cs := #[.string ((qn l0 x9_1).f0), .int .i64 ((qn l0 x9_1).f1), .string (⟨#[]⟩ : ByteArray)]) ?_ 2 _ rfl; (with_reducible repeat (first | refine qg ?_ _ | refine qi ?_ | refine qf ?_ _)); refine zu (cs := #[.string ((qn l0 x9_1).f0), .int .i64 0, .string (⟨#[]⟩ : ByteArray)]) ?_ 1 _ rfl; (with_reducible repeat (first | refine qg ?_ _ | refine qi ?_ | refine qf ?_ _)); refine zu (cs := #[.string (⟨#[]⟩ : ByteArray), .int .i64 0, .string (⟨#[]⟩ : ByteArray)]) ?_ 0 _ rfl; (with_reducible repeat (first | refine qg ?_ _ | refine qi ?_ | refine qf ?_ _)); exact BK260.out) hb); have n2_ := qa.mk (qp cao hb); clear BK258; clear BK260; clear HB; have BK258 := n0_; have BK260 := n1_; have HB := n2_; clear n0_ n1_ n2_; (try clear hb); (try clear hb2); (try clear hk); (try clear hi)))
        go_roundg k1
        case measure => have := HK1.out; omega
        case rel => exact ⟨(wrap64 (x9_1 + 1)), yf, H', ⟨by have := HK1.out; omega⟩, ⟨by (with_reducible repeat (first | refine qg ?_ _ | refine qi ?_ | refine qf ?_ _)); exact BK258.out⟩, ⟨by repeat (first | (with_reducible first | exact HB.out | apply qc | apply qb | apply qd | refine qe ?_ GE258.out | refine qe ?_ GE260.out) | exact HB.out)⟩⟩
      ·rw [if_neg c7] at H
       have c7b0 : (((qn l0 x9_1).f0).toList == a1_0.toList) = false := beq_eq_false_iff_ne.mpr c7
       have c7b1 : (((qn l0 x9_1).f0).toList != a1_0.toList) = true := bne_iff_ne.mpr c7
       have H' := qa.mk H
       clear H
       have p259 : 0 ≤ (x9_1 : Int) := of_decide_eq_true cz
       have q259 : x9_1 < (l0.length : Int) := of_decide_eq_true cz
       obtain ⟨ad259, e259, hx259_0, hx259_1, hx259_2⟩ := k5 HR0.out x9_1 p259 q259
       cases e259
       replace hx259_0 := (HB.out.cell (World.block_lt_of_cell? w _ hx259_0)).trans hx259_0
       replace hx259_1 := (HB.out.cell (World.block_lt_of_cell? w _ hx259_1)).trans hx259_1
       replace hx259_2 := (HB.out.cell (World.block_lt_of_cell? w _ hx259_2)).trans hx259_2
       replace p259 := eq_true p259
       replace q259 := eq_true q259
       go_wp2_with (first | ((with_reducible refine zl (N := 6) rfl ?_); refine zo ?hg (N := 6) ?hd (cs := #[.string (⟨#[]⟩ : ByteArray), .int .i64 0, .string (⟨#[]⟩ : ByteArray)]) (t := 40) ?hr ?_; (case hd => rfl); (case hg => rfl); (case hr => first | (go_simp; done) | (go_simp; rfl)); intro gb260 hg w20 hbox hb; have n0_ := qa.mk (q9 (g := gb258) (o := .cells #[.string a1_0, .int .i64 a1_1, .string a1_2] 40 (0, 0)) ui hb); have n1_ := qa.mk (qp uf hb); have n2_ := qa.mk (hbox); have n3_ := qa.mk ((by rw [hg]; exact (qr uf) : w.heap.size ≤ gb260)); have n4_ := qa.mk ((by rw [hg]; exact (qr uf) : w.heap.size ≤ gb260)); have n5_ := qa.mk ((by rw [hg]; exact Nat.ne_of_lt (zz (g := gb258) (o := .cells #[.string a1_0, .int .i64 a1_1, .string a1_2] 40 (0, 0)) ui) : gb258 ≠ gb260)); have n6_ := qa.mk ((by rw [hg]; exact Nat.ne_of_gt (zz (g := gb258) (o := .cells #[.string a1_0, .int .i64 a1_1, .string a1_2] 40 (0, 0)) ui) : gb260 ≠ gb258)); clear BK258; clear HB; have BK258 := n0_; have HB := n1_; have BK260 := n2_; have GW260 := n3_; have GE260 := n4_; have NB258_260 := n5_; have NB260_258 := n6_; clear n0_ n1_ n2_ n3_ n4_ n5_ n6_; clear hb hbox hg; have hnb21 := NB260_258.out; have hnc21 := NB258_260.out; have hcz22_0 : w20.cell? ⟨gb260, 0, none⟩ = some (.string (⟨#[]⟩ : ByteArray)) := (ql BK260.out 0).trans rfl; have hcz22_1 : w20.cell? ⟨gb260, 1, none⟩ = some (.int .i64 0) := (ql BK260.out 1).trans rfl; have hcz22_2 : w20.cell? ⟨gb260, 2, none⟩ = some (.string (⟨#[]⟩ : ByteArray)) := (ql BK260.out 2).trans rfl; have hfz22_0 := qo BK260.out 0; have hfz22_1 := qo BK260.out 1; have hfz22_2 := qo BK260.out 2; have hcz23_0 : w20.cell? ⟨gb258, 0, none⟩ = some (.string a1_0) := (ql BK258.out 0).trans rfl; have hcz23_1 : w20.cell? ⟨gb258, 1, none⟩ = some (.int .i64 a1_1) := (ql BK258.out 1).trans rfl; have hcz23_2 : w20.cell? ⟨gb258, 2, none⟩ = some (.string a1_2) := (ql BK258.out 2).trans rfl; have hfz23_0 := qo BK258.out 0; have hfz23_1 := qo BK258.out 1; have hfz23_2 := qo BK258.out 2))
       go_roundg k1
       case measure => have := HK1.out; omega
       case rel => exact ⟨(wrap64 (x9_1 + 1)), yf, H', ⟨by have := HK1.out; omega⟩, ⟨by (with_reducible repeat (first | refine qg ?_ _ | refine qi ?_ | refine qf ?_ _)); refine xt ?_ NB258_260.out _; (with_reducible repeat (first | refine qg ?_ _ | refine qi ?_ | refine qf ?_ _)); refine xt ?_ NB258_260.out _; (with_reducible repeat (first | refine qg ?_ _ | refine qi ?_ | refine qf ?_ _)); refine xt ?_ NB258_260.out _; (with_reducible repeat (first | refine qg ?_ _ | refine qi ?_ | refine qf ?_ _)); exact BK258.out⟩, ⟨by repeat (first | (with_reducible first | exact HB.out | apply qc | apply qb | apply qd | refine qe ?_ GE258.out | refine qe ?_ GE260.out) | exact HB.out)⟩⟩
     ·rw [if_neg c6] at H
      exact absurd H yt
    ·rw [if_neg c5] at H
     exact absurd H yt
   ·rw [if_neg c4] at H
    have c4b0 : decide (x9_1 < (l0.length : Int)) = false := decide_eq_false c4
    clear c4
    obtain rfl := Option.some.inj H
    go_wp2
    go_ret
    exact ⟨by first | rfl | (simp [qu, qt] <;> rfl) | (simp [*, qu, qt] <;> rfl), by repeat (first | (with_reducible first | exact HB.out | apply qc | apply qb | apply qd | refine qe ?_ GE258.out) | exact HB.out)⟩
end Go.Proofs.YthdoohfdminfgaaGreatDoor.C
end
section
namespace Go.Proofs.YthdoohfdminfgaaGreatDoor.C
open Go.RowKit Go.Proofs.YthdoohfdminfgaaGreatDoorW.PrintWords Go.Proofs.YthdoohfdminfgaaGreatDoorW.PrintLast Go.Proofs.YthdoohfdminfgaaGreatDoorW.PrintMore
attribute [local go_sem] xa z7 xq xr zx zy xc z8
set_option linter.unusedVariables false
set_option linter.unusedSimpArgs false
def q8.l0 : Nat → List (S40) → List (S40) → Int → Int → Option (Bool)
 | 0, _, _, _, _ => none
 | k + 1, x0, x1, x12, x13 => if x13 < x12 then (if 0 ≤ x13 then (if x13 < (x0.length : Int) then ((zd.f k x1 ((qn x0 x13).f0) ((qn x0 x13).f1) ((qn x0 x13).f2)).bind fun t263 => (if t263 = true then (if x13 < (x1.length : Int) then ((zd.f k x0 ((qn x1 x13).f0) ((qn x1 x13).f1) ((qn x1 x13).f2)).bind fun t265 => (if t265 = true then (q8.l0 k x0 x1 x12 (wrap64 (x13 + 1))) else (some false))) else (none)) else (some false))) else (none)) else (none)) else (some true)
def q8.f (k : Nat) (l0 : List (S40)) (l1 : List (S40)) : Option (Bool) := if (l0.length : Int) = (l1.length : Int) then (q8.l0 k l0 l1 (l0.length : Int) 0) else (some false)
theorem q8.xi : ∀ k, (∀ y0 y1 y2 y3, LeO (q8.l0 k y0 y1 y2 y3) (q8.l0 (k + 1) y0 y1 y2 y3))
 | 0 => fun _ _ _ _ r h => by simp [q8.l0] at h
 | k + 1 => by
  have ih0 := q8.xi k
  ·intro y0 y1 y2 y3
   unfold q8.l0
   repeat' first
   | (with_reducible exact ih0 _ _ _ _)
   | (with_reducible exact zd.mono _ _ _ _ _)
   | (with_reducible exact LeO.refl _)
   | (with_reducible exact LeO.none _)
   | (with_reducible refine LeO.ite ?_ ?_)
   | (with_reducible refine LeO.bind ?_ (fun _ => ?_))
theorem q8.mono : ∀ a0 a1 k, LeO (q8.f k a0 a1) (q8.f (k + 1) a0 a1) := by
 intro a0 a1 k
 have ih0 := q8.xi k
 unfold q8.f
 repeat' first
   | (with_reducible exact ih0 _ _ _ _)
   | (with_reducible exact zd.mono _ _ _ _ _)
   | (with_reducible exact LeO.refl _)
   | (with_reducible exact LeO.none _)
   | (with_reducible refine LeO.ite ?_ ?_)
   | (with_reducible refine LeO.bind ?_ (fun _ => ?_))
set_option maxHeartbeats 8000000 in
set_option maxRecDepth 100000 in
theorem q8.calls (k : Nat) (A0 : Option Addr) (c0 : Nat) (l0 : List (S40)) (A1 : Option Addr) (c1 : Nat) (l1 : List (S40)) (r : Bool) (w : World) (hr0 : Kd.C k40 w A0 l0.length l0) (hc0 : l0.length ≤ c0) (hr1 : Kd.C k40 w A1 l1.length l1) (hc1 : l1.length ≤ c1) (h : q8.f k l0 l1 = some r) :
  Calls Tryz.prog 92 #[.slice A0 l0.length c0, .slice A1 l1.length c1] w fun e w' => e = .returned (.bool r) ∧ Below w.heap.size w w' := by
 have hu40 := Tryz.underlying40
 have HR0 := qa.mk hr0
 have HC0 := qa.mk hc0
 clear hr0 hc0
 have HR1 := qa.mk hr1
 have HC1 := qa.mk hc1
 clear hr1 hc1
 have HB := qa.mk (Below.refl w.heap.size w)
 have H : (if (l0.length : Int) = (l1.length : Int) then (q8.l0 k l0 l1 (l0.length : Int) 0) else (some false)) = some r := h
 clear h
 by_cases c3 : (l0.length : Int) = (l1.length : Int)
 ·rw [if_pos c3] at H
  have c3b0 : ((l0.length : Int) == (l1.length : Int)) = true := beq_iff_eq.mpr c3
  have c3b1 : ((l0.length : Int) != (l1.length : Int)) = false := bne_eq_false_iff_eq.mpr c3
  have c3b2 : (l0.length == l1.length) = true := by first | simpa using c3 | (simp at c3 ⊢; omega)
  clear c3
  have H' := qa.mk H
  clear H
  go_enter Tryz.func92, Tryz.ntmps92
  go_wp2
  go_loopg [13] k (fun kq v13 w' => ∃ (x13_1 : Int), v13 = .int .i64 x13_1 ∧ qa (q8.l0 kq l0 l1 (l0.length : Int) x13_1 = some r) ∧ qa (kq ≤ k) ∧ qa (Below w.heap.size w w'))
  case atStart => exact ⟨(0), yf, H', ⟨Nat.le_refl _⟩, ⟨by repeat (first | (with_reducible first | exact HB.out | apply qc | apply qb | apply qd) | exact HB.out)⟩⟩
  case round =>
   clear H'
   (try clear c1); (try clear p2); (try clear c3); (try clear c3b0); (try clear c3b1); try clear c3b2
   obtain ⟨x13_1, rfl, HA, HK1, HB⟩ := hrel
   cases gk with
   | zero => exact absurd HA.out (by simp [q8.l0])
   | succ k1 =>
    have H := HA.out
    clear HA
    simp only [q8.l0] at H
    by_cases c4 : x13_1 < (l0.length : Int)
    ·rw [if_pos c4] at H
     have c4b0 : decide (x13_1 < (l0.length : Int)) = true := decide_eq_true c4
     clear c4
     by_cases c5 : 0 ≤ x13_1
     ·rw [if_pos c5] at H
      have c5b0 : decide (0 ≤ x13_1) = true := decide_eq_true c5
      clear c5
      by_cases c6 : x13_1 < (l0.length : Int)
      ·rw [if_pos c6] at H
       have c6b0 : decide (x13_1 < (l0.length : Int)) = true := decide_eq_true c6
       clear c6
       replace H := Option.bind_eq_some_iff.mp H
       obtain ⟨t263, A70, H⟩ := H
       replace H : (if t263 = true then (if x13_1 < (l1.length : Int) then ((zd.f k1 l0 ((qn l1 x13_1).f0) ((qn l1 x13_1).f1) ((qn l1 x13_1).f2)).bind fun t265 => (if t265 = true then (q8.l0 k1 l0 l1 (l0.length : Int) (wrap64 (x13_1 + 1))) else (some false))) else (none)) else (some false)) = some r := H
       have A7 := qa.mk A70
       clear A70
       by_cases c8 : t263 = true
       ·subst c8
        have H1 : (if x13_1 < (l1.length : Int) then ((zd.f k1 l0 ((qn l1 x13_1).f0) ((qn l1 x13_1).f1) ((qn l1 x13_1).f2)).bind fun t265 => (if t265 = true then (q8.l0 k1 l0 l1 (l0.length : Int) (wrap64 (x13_1 + 1))) else (some false))) else (none)) = some r := by rw [if_pos rfl] at H; exact H
        clear H
        have H := H1
        clear H1
        by_cases c9 : x13_1 < (l1.length : Int)
        ·rw [if_pos c9] at H
         have c9b0 : decide (x13_1 < (l1.length : Int)) = true := decide_eq_true c9
         clear c9
         replace H := Option.bind_eq_some_iff.mp H
         obtain ⟨t265, A100, H⟩ := H
         replace H : (if t265 = true then (q8.l0 k1 l0 l1 (l0.length : Int) (wrap64 (x13_1 + 1))) else (some false)) = some r := H
         have A10 := qa.mk A100
         clear A100
         by_cases c11 : t265 = true
         ·subst c11
          have H1 : (q8.l0 k1 l0 l1 (l0.length : Int) (wrap64 (x13_1 + 1))) = some r := by rw [if_pos rfl] at H; exact H
          clear H
          have H := H1
          clear H1
          have H' := qa.mk H
          clear H
          have p262 : 0 ≤ (x13_1 : Int) := of_decide_eq_true cz
          have q262 : x13_1 < (l0.length : Int) := of_decide_eq_true cz
          obtain ⟨ad262, e262, hx262_0, hx262_1, hx262_2⟩ := k5 HR0.out x13_1 p262 q262
          cases e262
          replace hx262_0 := (HB.out.cell (World.block_lt_of_cell? w _ hx262_0)).trans hx262_0
          replace hx262_1 := (HB.out.cell (World.block_lt_of_cell? w _ hx262_1)).trans hx262_1
          replace hx262_2 := (HB.out.cell (World.block_lt_of_cell? w _ hx262_2)).trans hx262_2
          replace p262 := eq_true p262
          replace q262 := eq_true q262
          go_wp2_with (first | ((with_reducible refine zn (f := 137) rfl ?_); refine kd (some 21) rfl rfl Tryz.func137 yj rfl #[.slice A1 l1.length c1, .agg #[.string ((qn l0 x13_1).f0), .int .i64 ((qn l0 x13_1).f1), .string ((qn l0 x13_1).f2)]] rfl yc ?_; (with_reducible refine (zd.calls k1 _ _ l1 ((qn l0 x13_1).f0) ((qn l0 x13_1).f1) ((qn l0 x13_1).f2) true _ ?side1 ?side2 A7.out).mono ?_); (case side1 => repeat (first | exact (Kd.ki HR1.out HB.out) | (with_reducible refine Kd.kr ?_ _) | (with_reducible refine Kd.ks ?_ _) | (with_reducible refine Kd.ky ?_))); (case side2 => exact HC1.out); rintro e w12 ⟨rfl, hb⟩; refine ⟨_, rfl, ?_⟩; have n0_ := qa.mk (qp cu hb); clear HB; have HB := n0_; clear n0_; (try clear hb); (try clear hb2); (try clear hk); (try clear hi); have p264 : 0 ≤ (x13_1 : Int) := of_decide_eq_true cz; have q264 : x13_1 < (l1.length : Int) := of_decide_eq_true cz; obtain ⟨ad264, e264, hx264_0, hx264_1, hx264_2⟩ := k5 HR1.out x13_1 p264 q264; cases e264; replace hx264_0 := (HB.out.cell (World.block_lt_of_cell? w _ hx264_0)).trans hx264_0; replace hx264_1 := (HB.out.cell (World.block_lt_of_cell? w _ hx264_1)).trans hx264_1; replace hx264_2 := (HB.out.cell (World.block_lt_of_cell? w _ hx264_2)).trans hx264_2; replace p264 := eq_true p264; replace q264 := eq_true q264) | (go_at_call 137; (with_reducible refine (zd.calls k1 _ _ l0 ((qn l1 x13_1).f0) ((qn l1 x13_1).f1) ((qn l1 x13_1).f2) true _ ?side1 ?side2 A10.out).mono ?_); (case side1 => repeat (first | exact (Kd.ki HR0.out HB.out) | (with_reducible refine Kd.kr ?_ _) | (with_reducible refine Kd.ks ?_ _) | (with_reducible refine Kd.ky ?_))); (case side2 => exact HC0.out); rintro e w13 ⟨rfl, hb⟩; have n0_ := qa.mk (qp cu hb); clear HB; have HB := n0_; clear n0_; (try clear hb); (try clear hb2); (try clear hk); (try clear hi)))
          go_roundg k1
          case measure => have := HK1.out; omega
          case rel => exact ⟨(wrap64 (x13_1 + 1)), yf, H', ⟨by have := HK1.out; omega⟩, ⟨by repeat (first | (with_reducible first | exact HB.out | apply qc | apply qb | apply qd) | exact HB.out)⟩⟩
         ·replace c11 := Bool.eq_false_iff.mpr c11
          subst c11
          have H1 : (some false) = some r := by rw [if_neg (show ¬ (false = true) by decide)] at H; exact H
          clear H
          have H := H1
          clear H1
          obtain rfl := Option.some.inj H
          have p262 : 0 ≤ (x13_1 : Int) := of_decide_eq_true cz
          have q262 : x13_1 < (l0.length : Int) := of_decide_eq_true cz
          obtain ⟨ad262, e262, hx262_0, hx262_1, hx262_2⟩ := k5 HR0.out x13_1 p262 q262
          cases e262
          replace hx262_0 := (HB.out.cell (World.block_lt_of_cell? w _ hx262_0)).trans hx262_0
          replace hx262_1 := (HB.out.cell (World.block_lt_of_cell? w _ hx262_1)).trans hx262_1
          replace hx262_2 := (HB.out.cell (World.block_lt_of_cell? w _ hx262_2)).trans hx262_2
          replace p262 := eq_true p262
          replace q262 := eq_true q262
          go_wp2_with (first | ((with_reducible refine zn (f := 137) rfl ?_); refine kd (some 21) rfl rfl Tryz.func137 yj rfl #[.slice A1 l1.length c1, .agg #[.string ((qn l0 x13_1).f0), .int .i64 ((qn l0 x13_1).f1), .string ((qn l0 x13_1).f2)]] rfl yc ?_; (with_reducible refine (zd.calls k1 _ _ l1 ((qn l0 x13_1).f0) ((qn l0 x13_1).f1) ((qn l0 x13_1).f2) true _ ?side1 ?side2 A7.out).mono ?_); (case side1 => repeat (first | exact (Kd.ki HR1.out HB.out) | (with_reducible refine Kd.kr ?_ _) | (with_reducible refine Kd.ks ?_ _) | (with_reducible refine Kd.ky ?_))); (case side2 => exact HC1.out); rintro e w14 ⟨rfl, hb⟩; refine ⟨_, rfl, ?_⟩; have n0_ := qa.mk (qp cu hb); clear HB; have HB := n0_; clear n0_; (try clear hb); (try clear hb2); (try clear hk); (try clear hi); have p264 : 0 ≤ (x13_1 : Int) := of_decide_eq_true cz; have q264 : x13_1 < (l1.length : Int) := of_decide_eq_true cz; obtain ⟨ad264, e264, hx264_0, hx264_1, hx264_2⟩ := k5 HR1.out x13_1 p264 q264; cases e264; replace hx264_0 := (HB.out.cell (World.block_lt_of_cell? w _ hx264_0)).trans hx264_0; replace hx264_1 := (HB.out.cell (World.block_lt_of_cell? w _ hx264_1)).trans hx264_1; replace hx264_2 := (HB.out.cell (World.block_lt_of_cell? w _ hx264_2)).trans hx264_2; replace p264 := eq_true p264; replace q264 := eq_true q264) | (go_at_call 137; (with_reducible refine (zd.calls k1 _ _ l0 ((qn l1 x13_1).f0) ((qn l1 x13_1).f1) ((qn l1 x13_1).f2) false _ ?side1 ?side2 A10.out).mono ?_); (case side1 => repeat (first | exact (Kd.ki HR0.out HB.out) | (with_reducible refine Kd.kr ?_ _) | (with_reducible refine Kd.ks ?_ _) | (with_reducible refine Kd.ky ?_))); (case side2 => exact HC0.out); rintro e w15 ⟨rfl, hb⟩; have n0_ := qa.mk (qp cu hb); clear HB; have HB := n0_; clear n0_; (try clear hb); (try clear hb2); (try clear hk); (try clear hi)))
          go_ret
          exact ⟨by first | rfl | (simp [qu, qt] <;> rfl) | (simp [*, qu, qt] <;> rfl), by repeat (first | (with_reducible first | exact HB.out | apply qc | apply qb | apply qd) | exact HB.out)⟩
        ·rw [if_neg c9] at H
         exact absurd H yt
       ·replace c8 := Bool.eq_false_iff.mpr c8
        subst c8
        have H1 : (some false) = some r := by rw [if_neg (show ¬ (false = true) by decide)] at H; exact H
        clear H
        have H := H1
        clear H1
        obtain rfl := Option.some.inj H
        have p262 : 0 ≤ (x13_1 : Int) := of_decide_eq_true cz
        have q262 : x13_1 < (l0.length : Int) := of_decide_eq_true cz
        obtain ⟨ad262, e262, hx262_0, hx262_1, hx262_2⟩ := k5 HR0.out x13_1 p262 q262
        cases e262
        replace hx262_0 := (HB.out.cell (World.block_lt_of_cell? w _ hx262_0)).trans hx262_0
        replace hx262_1 := (HB.out.cell (World.block_lt_of_cell? w _ hx262_1)).trans hx262_1
        replace hx262_2 := (HB.out.cell (World.block_lt_of_cell? w _ hx262_2)).trans hx262_2
        replace p262 := eq_true p262
        replace q262 := eq_true q262
        go_wp2_with (first | ((with_reducible refine zn (f := 137) rfl ?_); refine kd (some 21) rfl rfl Tryz.func137 yj rfl #[.slice A1 l1.length c1, .agg #[.string ((qn l0 x13_1).f0), .int .i64 ((qn l0 x13_1).f1), .string ((qn l0 x13_1).f2)]] rfl yc ?_; (with_reducible refine (zd.calls k1 _ _ l1 ((qn l0 x13_1).f0) ((qn l0 x13_1).f1) ((qn l0 x13_1).f2) false _ ?side1 ?side2 A7.out).mono ?_); (case side1 => repeat (first | exact (Kd.ki HR1.out HB.out) | (with_reducible refine Kd.kr ?_ _) | (with_reducible refine Kd.ks ?_ _) | (with_reducible refine Kd.ky ?_))); (case side2 => exact HC1.out); rintro e w16 ⟨rfl, hb⟩; refine ⟨_, rfl, ?_⟩; have n0_ := qa.mk (qp cu hb); clear HB; have HB := n0_; clear n0_; (try clear hb); (try clear hb2); (try clear hk); (try clear hi)))
        go_ret
        exact ⟨by first | rfl | (simp [qu, qt] <;> rfl) | (simp [*, qu, qt] <;> rfl), by repeat (first | (with_reducible first | exact HB.out | apply qc | apply qb | apply qd) | exact HB.out)⟩
      ·rw [if_neg c6] at H
       exact absurd H yt
     ·rw [if_neg c5] at H
      exact absurd H yt
    ·rw [if_neg c4] at H
     have c4b0 : decide (x13_1 < (l0.length : Int)) = false := decide_eq_false c4
     clear c4
     obtain rfl := Option.some.inj H
     go_wp2
     go_ret
     exact ⟨by first | rfl | (simp [qu, qt] <;> rfl) | (simp [*, qu, qt] <;> rfl), by repeat (first | (with_reducible first | exact HB.out | apply qc | apply qb | apply qd) | exact HB.out)⟩
 ·rw [if_neg c3] at H
  have c3b0 : ((l0.length : Int) == (l1.length : Int)) = false := beq_eq_false_iff_ne.mpr c3
  have c3b1 : ((l0.length : Int) != (l1.length : Int)) = true := bne_iff_ne.mpr c3
  have c3b2 : (l0.length == l1.length) = false := by first | simpa using c3 | (simp at c3 ⊢; omega)
  obtain rfl := Option.some.inj H
  go_enter Tryz.func92, Tryz.ntmps92
  go_wp2
  go_ret
  exact ⟨by first | rfl | (simp [qu, qt] <;> rfl) | (simp [*, qu, qt] <;> rfl), by repeat (first | (with_reducible first | exact HB.out | apply qc | apply qb | apply qd) | exact HB.out)⟩
end Go.Proofs.YthdoohfdminfgaaGreatDoor.C
end
