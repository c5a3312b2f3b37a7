/- Words, walks and plain laws that the claim rests on, gathered. -/
import Derived.Test.YthdoohfdminfgaaGreatDoorProg
import Derived.WalkSpells
import Derived.Below
import Derived.Deep.Draws
import Derived.Deep.AppendLies
import Derived.Maps.AppendAt
import Derived.OwnWalk
import Derived.Laws.BytesArg
import Derived.Laws.MakeOwn
import Derived.Laws.OwnMore
import Derived.Deep.OwnRows
import Derived.Tactics
import Derived.Lib.ConvBytes
import Derived.Laws.Slices
import Derived.WalkKit
import Derived.KernelRfl
import Derived.RowKit3
import Derived.Deep.LoopGhost
import Derived.Deep.QuietTactic
import Derived.BigQuiet
import Derived.WideLaws
import Derived.Deep.DeepCutAuto
import Derived.Deep.CutBlock
import Derived.Deep.RegionHeld3
import Derived.Laws.Rows
import Derived.Lib.AppendStr
import Derived.ArgAppend
import Derived.Laws.IdiomCopy
import Derived.OrdersHeld
import Derived.Laws.BitsLemmas
import Derived.RowKit
import Derived.WalkLawsBesides
import Derived.Shelf.Strings.Builder1
import Derived.Shelf.Strings.Builder2
import Derived.Shelf.Strings.OnBuilder
import Derived.Shelf.Small.Bits
import Derived.Shelf.Small.Strs
import Derived.Shelf.Strings.BuilderF
import Derived.Shelf.Strings.BuilderK
import Derived.Shelf.Utf8.RuneCount
import Derived.Shelf.Strings.Builder2Cap
import Derived.Shelf.Strconv.Itoa0
import Derived.Shelf.Strconv.Itoa1
import Derived.Shelf.LaysM
import Derived.Shelf.Strconv.Itoa2
import Derived.Shelf.Strconv.Itoa3
import Derived.Shelf.Strings.Search1
import Derived.Shelf.Strings.Search2
import Derived.Shelf.Strings.Search3
import Derived.Shelf.Strings.Cut
import Derived.Shelf.Strings.Count
import Derived.Shelf.Strings.Shaped
import Derived.Shelf.Sort.Plain
import Derived.Ground.GgsProg
import Derived.Shelf.GgSortFunc.Insertion
import Derived.Shelf.GgSortFunc.Small
import Derived.Shelf.GgSortFunc.InsertionK
import Derived.Shelf.GgSortFunc.SmallK
import Derived.Shelf.GgSortFunc.Tiny
import Derived.Shelf.GgSortFunc.Compose
import Derived.Shelf.GgSortFunc.LotD
import Derived.Shelf.GgSortFunc.Pivot
import Derived.Shelf.GgSortFunc.Partition
import Derived.Shelf.GgSortFunc.Pdq
import Derived.Shelf.GgSortFunc.Whole
import Derived.Shelf.Strings.Prefix
import Derived.Shelf.Strings.Split
import Derived.Shelf.Strings.SplitShaped
import Derived.Shelf.Unicode.Decode
import Derived.Shelf.Strings.RuneCount
import Derived.Shelf.Strings.Explode
import Derived.Shelf.Unicode.DecodeSlow
import Derived.Shelf.Unicode.DecodeAny
import Derived.Shelf.Strings.BuilderCap
import Derived.Shelf.Slices.In.SortNone
import Derived.Shelf.Slices.In.SortNone2
import Derived.Shelf.SlSortFunc.Xorshift
import Derived.Shelf.SlSortFuncK.ComposeK
import Derived.Shelf.SlSortFuncK.SiftDownK
import Derived.Shelf.SlSortFuncK.HeapSortK
import Derived.Shelf.SlSortFuncK.PartialInsertionK
import Derived.Shelf.SlSortFuncK.LotDK
import Derived.Shelf.SlSortFuncK.PivotK
import Derived.Shelf.SlSortFuncK.PartitionK
import Derived.Shelf.SlSortFunc.SiftDown
import Derived.Shelf.SlSortFunc.HeapSort
import Derived.Shelf.SlSortFunc.PartialInsertion
import Derived.Shelf.SlSortFuncK.PdqK
import Derived.Shelf.SlSortFuncK.WholeK
import Derived.Laws.StructEq
import Derived.Test.YthdoohfdminfgaaGreatDoorNK0
import Derived.Test.YthdoohfdminfgaaGreatDoorNK1
import Derived.Test.YthdoohfdminfgaaGreatDoorNK2
import Derived.Test.YthdoohfdminfgaaGreatDoorNK6
import Derived.Test.YthdoohfdminfgaaGreatDoorNKc
namespace Go.Proofs.YthdoohfdminfgaaGreatDoorW.PrintLast
end Go.Proofs.YthdoohfdminfgaaGreatDoorW.PrintLast
namespace Go.Proofs.YthdoohfdminfgaaGreatDoorW.PrintMore
end Go.Proofs.YthdoohfdminfgaaGreatDoorW.PrintMore
namespace Go.Proofs.YthdoohfdminfgaaGreatDoorW.PrintWords
end Go.Proofs.YthdoohfdminfgaaGreatDoorW.PrintWords
section
namespace Go.Proofs.YthdoohfdminfgaaGreatDoor.C
open Go.RowKit Go.Proofs.YthdoohfdminfgaaGreatDoorW.PrintWords Go.Proofs.YthdoohfdminfgaaGreatDoorW.PrintLast Go.Proofs.YthdoohfdminfgaaGreatDoorW.PrintMore
attribute [local go_sem] xa z7 xq xr zx zy xc z8
set_option linter.unusedVariables false
set_option linter.unusedSimpArgs false
def xd.l0 : Nat → List (S40) → Int → Int → ByteArray → Int → ByteArray → Option (Bool)
 | 0, _, _, _, _, _, _ => none
 | k + 1, x7, x8, x9, x197000, x197001, x197002 => if x9 < x8 then (if 0 ≤ x9 then (if x9 < (x7.length : Int) then (if x197000.toList = ((qn x7 x9).f0).toList then ((k7.f k x197002 ((qn x7 x9).f2)).bind fun t199 => (if t199 = true then (some true) else (xd.l0 k x7 x8 (wrap64 (x9 + 1)) x197000 x197001 x197002))) else (xd.l0 k x7 x8 (wrap64 (x9 + 1)) x197000 x197001 x197002)) else (none)) else (none)) else (some false)
def xd.f (k : Nat) (l0 : List (S40)) (a1_0 : ByteArray) (a1_1 : Int) (a1_2 : ByteArray) : Option (Bool) := xd.l0 k l0 (l0.length : Int) 0 a1_0 a1_1 a1_2
theorem xd.xi : ∀ k, (∀ y0 y1 y2 y3 y4 y5, LeO (xd.l0 k y0 y1 y2 y3 y4 y5) (xd.l0 (k + 1) y0 y1 y2 y3 y4 y5))
 | 0 => fun _ _ _ _ _ _ r h => by simp [xd.l0] at h
 | k + 1 => by
  have ih0 := xd.xi k
  ·intro y0 y1 y2 y3 y4 y5
   unfold xd.l0
   repeat' first
   | (with_reducible exact ih0 _ _ _ _ _ _)
   | (with_reducible exact k7.mono _ _ _)
   | (with_reducible exact LeO.refl _)
   | (with_reducible exact LeO.none _)
   | (with_reducible refine LeO.ite ?_ ?_)
   | (with_reducible refine LeO.bind ?_ (fun _ => ?_))
theorem xd.mono : ∀ a0 a1 a2 a3 k, LeO (xd.f k a0 a1 a2 a3) (xd.f (k + 1) a0 a1 a2 a3) := by
 intro a0 a1 a2 a3 k
 have ih0 := xd.xi k
 unfold xd.f
 repeat' first
   | (with_reducible exact ih0 _ _ _ _ _ _)
   | (with_reducible exact k7.mono _ _ _)
   | (with_reducible exact LeO.refl _)
   | (with_reducible exact LeO.none _)
   | (with_reducible refine LeO.ite ?_ ?_)
   | (with_reducible refine LeO.bind ?_ (fun _ => ?_))
set_option maxHeartbeats 8000000 in
set_option maxRecDepth 100000 in
theorem xd.calls (k : Nat) (A0 : Option Addr) (c0 : Nat) (l0 : List (S40)) (a1_0 : ByteArray) (a1_1 : Int) (a1_2 : ByteArray) (r : Bool) (w : World) (hr0 : Kd.C k40 w A0 l0.length l0) (hc0 : l0.length ≤ c0) (h : xd.f k l0 a1_0 a1_1 a1_2 = some r) :
  Calls Tryz.prog 140 #[.slice A0 l0.length c0, .agg #[.string a1_0, .int .i64 a1_1, .string a1_2]] w fun e w' => e = .returned (.bool r) ∧ Below w.heap.size w w' := by
 have hu40 := Tryz.underlying40
 have HR0 := qa.mk hr0
 have HC0 := qa.mk hc0
 clear hr0 hc0
 have HB := qa.mk (Below.refl w.heap.size w)
 have H : (xd.l0 k l0 (l0.length : Int) 0 a1_0 a1_1 a1_2) = some r := h
 clear h
 have H' := qa.mk H
 clear H
 go_enter Tryz.func140, Tryz.ntmps140
 go_wp2_with (first | ((with_reducible refine zl (N := 3) rfl ?_); refine zo ?hg (N := 3) ?hd (cs := #[.string a1_0, .int .i64 a1_1, .string a1_2]) (t := 40) ?hr ?_; (case hd => rfl); (case hg => rfl); (case hr => first | (go_simp; done) | (go_simp; rfl)); intro gb196 hg w3 hbox hb; have n0_ := qa.mk (qp cu hb); have n1_ := qa.mk (hbox); have n2_ := qa.mk ((by rw [hg]; exact (qr cu) : w.heap.size ≤ gb196)); have n3_ := qa.mk ((by rw [hg]; exact (qr cu) : w.heap.size ≤ gb196)); clear HB; have HB := n0_; have BK196 := n1_; have GW196 := n2_; have GE196 := n3_; clear n0_ n1_ n2_ n3_; clear hb hbox hg))
 go_loopg [9] k (fun kq v9 w' => ∃ (x9_1 : Int), v9 = .int .i64 x9_1 ∧ qa (xd.l0 kq l0 (l0.length : Int) x9_1 a1_0 a1_1 a1_2 = some r) ∧ qa (kq ≤ k) ∧ qa (w'.heap[gb196]? = some (.cells #[.string a1_0, .int .i64 a1_1, .string a1_2] 40 (0, 0))) ∧ qa (Below w.heap.size w w'))
 case atStart => exact ⟨(0), yf, H', ⟨Nat.le_refl _⟩, ⟨by (with_reducible repeat (first | refine qg ?_ _ | refine qi ?_ | refine qf ?_ _)); exact BK196.out⟩, ⟨by repeat (first | (with_reducible first | exact HB.out | apply qc | apply qb | apply qd | refine qe ?_ GE196.out) | exact HB.out)⟩⟩
 case round =>
  clear H'
  (try clear c1); try clear p2
  obtain ⟨x9_1, rfl, HA, HK1, BK196, HB⟩ := hrel
  cases gk with
  | zero => exact absurd HA.out (by simp [xd.l0])
  | succ k1 =>
   have H := HA.out
   clear HA
   simp only [xd.l0] at H
   by_cases c4 : x9_1 < (l0.length : Int)
   ·rw [if_pos c4] at H
    have c4b0 : decide (x9_1 < (l0.length : Int)) = true := decide_eq_true c4
    clear c4
    by_cases c5 : 0 ≤ x9_1
    ·rw [if_pos c5] at H
     have c5b0 : decide (0 ≤ x9_1) = true := decide_eq_true c5
     clear c5
     by_cases c6 : x9_1 < (l0.length : Int)
     ·rw [if_pos c6] at H
      have c6b0 : decide (x9_1 < (l0.length : Int)) = true := decide_eq_true c6
      clear c6
      by_cases c7 : a1_0.toList = ((qn l0 x9_1).f0).toList
      ·rw [if_pos c7] at H
       have c7b0 : (a1_0.toList == ((qn l0 x9_1).f0).toList) = true := beq_iff_eq.mpr c7
       have c7b1 : (a1_0.toList != ((qn l0 x9_1).f0).toList) = false := bne_eq_false_iff_eq.mpr c7
       clear c7
       replace H := Option.bind_eq_some_iff.mp H
       obtain ⟨t199, A80, H⟩ := H
       replace H : (if t199 = true then (some true) else (xd.l0 k1 l0 (l0.length : Int) (wrap64 (x9_1 + 1)) a1_0 a1_1 a1_2)) = some r := H
       have A8 := qa.mk A80
       clear A80
       by_cases c9 : t199 = true
       ·subst c9
        have H1 : (some true) = some r := by rw [if_pos rfl] at H; exact H
        clear H
        have H := H1
        clear H1
        obtain rfl := Option.some.inj H
        have p197 : 0 ≤ (x9_1 : Int) := of_decide_eq_true cz
        have q197 : x9_1 < (l0.length : Int) := of_decide_eq_true cz
        obtain ⟨ad197, e197, hx197_0, hx197_1, hx197_2⟩ := k5 HR0.out x9_1 p197 q197
        cases e197
        replace hx197_0 := (HB.out.cell (World.block_lt_of_cell? w _ hx197_0)).trans hx197_0
        replace hx197_1 := (HB.out.cell (World.block_lt_of_cell? w _ hx197_1)).trans hx197_1
        replace hx197_2 := (HB.out.cell (World.block_lt_of_cell? w _ hx197_2)).trans hx197_2
        replace p197 := eq_true p197
        replace q197 := eq_true q197
        go_wp2_with (first | ((with_reducible refine zl (N := 6) rfl ?_); refine zo ?hg (N := 6) ?hd (cs := #[.string (⟨#[]⟩ : ByteArray), .int .i64 0, .string (⟨#[]⟩ : ByteArray)]) (t := 40) ?hr ?_; (case hd => rfl); (case hg => rfl); (case hr => first | (go_simp; done) | (go_simp; rfl)); intro gb198 hg w10 hbox hb; have n0_ := qa.mk (q9 (g := gb196) (o := .cells #[.string a1_0, .int .i64 a1_1, .string a1_2] 40 (0, 0)) uj hb); have n1_ := qa.mk (qp ug hb); have n2_ := qa.mk (hbox); have n3_ := qa.mk ((by rw [hg]; exact (qr ug) : w.heap.size ≤ gb198)); have n4_ := qa.mk ((by rw [hg]; exact (qr ug) : w.heap.size ≤ gb198)); have n5_ := qa.mk ((by rw [hg]; exact Nat.ne_of_lt (zz (g := gb196) (o := .cells #[.string a1_0, .int .i64 a1_1, .string a1_2] 40 (0, 0)) uj) : gb196 ≠ gb198)); have n6_ := qa.mk ((by rw [hg]; exact Nat.ne_of_gt (zz (g := gb196) (o := .cells #[.string a1_0, .int .i64 a1_1, .string a1_2] 40 (0, 0)) uj) : gb198 ≠ gb196)); clear BK196; clear HB; have BK196 := n0_; have HB := n1_; have BK198 := n2_; have GW198 := n3_; have GE198 := n4_; have NB196_198 := n5_; have NB198_196 := n6_; clear n0_ n1_ n2_ n3_ n4_ n5_ n6_; clear hb hbox hg; have hnb11 := NB198_196.out; have hnc11 := NB196_198.out; have hcz12_0 : w10.cell? ⟨gb198, 0, none⟩ = some (.string (⟨#[]⟩ : ByteArray)) := (ql BK198.out 0).trans rfl; have hcz12_1 : w10.cell? ⟨gb198, 1, none⟩ = some (.int .i64 0) := (ql BK198.out 1).trans rfl; have hcz12_2 : w10.cell? ⟨gb198, 2, none⟩ = some (.string (⟨#[]⟩ : ByteArray)) := (ql BK198.out 2).trans rfl; have hfz12_0 := qo BK198.out 0; have hfz12_1 := qo BK198.out 1; have hfz12_2 := qo BK198.out 2; have hcz13_0 : w10.cell? ⟨gb196, 0, none⟩ = some (.string a1_0) := (ql BK196.out 0).trans rfl; have hcz13_1 : w10.cell? ⟨gb196, 1, none⟩ = some (.int .i64 a1_1) := (ql BK196.out 1).trans rfl; have hcz13_2 : w10.cell? ⟨gb196, 2, none⟩ = some (.string a1_2) := (ql BK196.out 2).trans rfl; have hfz13_0 := qo BK196.out 0; have hfz13_1 := qo BK196.out 1; have hfz13_2 := qo BK196.out 2) | (go_at_call 168; (with_reducible refine (k7.calls k1 a1_2 ((qn l0 x9_1).f2) true _ A8.out).mono ?_); rintro e w14 ⟨rfl, hb⟩; have n0_ := qa.mk (q9 (g := gb196) (o := .cells #[.string a1_0, .int .i64 a1_1, .string a1_2] 40 (0, 0)) caa hb); have n1_ := qa.mk (q9 (g := gb198) (o := .cells #[.string ((qn l0 x9_1).f0), .int .i64 ((qn l0 x9_1).f1), .string ((qn l0 x9_1).f2)] 40 (0, 0)) (by (with_reducible repeat (first | refine qg ?_ _ | refine qi ?_ | refine qf ?_ _)); refine zu (cs := #[.string ((qn l0 x9_1).f0), .int .i64 ((qn l0 x9_1).f1), .string (⟨#[]⟩ : ByteArray)]) ?_ 2 _ rfl; (with_reducible repeat (first | refine qg ?_ _ | refine qi ?_ | refine qf ?_ _)); refine zu (cs := #[.string ((qn l0 x9_1).f0), .int .i64 0, .string (⟨#[]⟩ : ByteArray)]) ?_ 1 _ rfl; (with_reducible repeat (first | refine qg ?_ _ | refine qi ?_ | refine qf ?_ _)); refine zu (cs := #[.string (⟨#[]⟩ : ByteArray), .int .i64 0, .string (⟨#[]⟩ : ByteArray)]) ?_ 0 _ rfl; (with_reducible repeat (first | refine qg ?_ _ | refine qi ?_ | refine qf ?_ _)); exact BK198.out) hb); have n2_ := qa.mk (qp car hb); clear BK196; clear BK198; clear HB; have BK196 := n0_; have BK198 := n1_; have HB := n2_; clear n0_ n1_ n2_; (try clear hb); (try clear hb2); (try clear hk); (try clear hi)))
        go_ret
        exact ⟨by first | rfl | (simp [qu, qt] <;> rfl) | (simp [*, qu, qt] <;> rfl), by repeat (first | (with_reducible first | exact HB.out | apply qc | apply qb | apply qd | refine qe ?_ GE196.out | refine qe ?_ GE198.out) | exact HB.out)⟩
       ·replace c9 := Bool.eq_false_iff.mpr c9
        subst c9
        have H1 : (xd.l0 k1 l0 (l0.length : Int) (wrap64 (x9_1 + 1)) a1_0 a1_1 a1_2) = some r := by rw [if_neg (show ¬ (false = true) by decide)] at H; exact H
        clear H
        have H := H1
        clear H1
        have H' := qa.mk H
        clear H
        have p197 : 0 ≤ (x9_1 : Int) := of_decide_eq_true cz
        have q197 : x9_1 < (l0.length : Int) := of_decide_eq_true cz
        obtain ⟨ad197, e197, hx197_0, hx197_1, hx197_2⟩ := k5 HR0.out x9_1 p197 q197
        cases e197
        replace hx197_0 := (HB.out.cell (World.block_lt_of_cell? w _ hx197_0)).trans hx197_0
        replace hx197_1 := (HB.out.cell (World.block_lt_of_cell? w _ hx197_1)).trans hx197_1
        replace hx197_2 := (HB.out.cell (World.block_lt_of_cell? w _ hx197_2)).trans hx197_2
        replace p197 := eq_true p197
        replace q197 := eq_true q197
        go_wp2_with (first | ((with_reducible refine zl (N := 6) rfl ?_); refine zo ?hg (N := 6) ?hd (cs := #[.string (⟨#[]⟩ : ByteArray), .int .i64 0, .string (⟨#[]⟩ : ByteArray)]) (t := 40) ?hr ?_; (case hd => rfl); (case hg => rfl); (case hr => first | (go_simp; done) | (go_simp; rfl)); intro gb198 hg w15 hbox hb; have n0_ := qa.mk (q9 (g := gb196) (o := .cells #[.string a1_0, .int .i64 a1_1, .string a1_2] 40 (0, 0)) uj hb); have n1_ := qa.mk (qp ug hb); have n2_ := qa.mk (hbox); have n3_ := qa.mk ((by rw [hg]; exact (qr ug) : w.heap.size ≤ gb198)); have n4_ := qa.mk ((by rw [hg]; exact (qr ug) : w.heap.size ≤ gb198)); have n5_ := qa.mk ((by rw [hg]; exact Nat.ne_of_lt (zz (g := gb196) (o := .cells #[.string a1_0, .int .i64 a1_1, .string a1_2] 40 (0, 0)) uj) : gb196 ≠ gb198)); have n6_ := qa.mk ((by rw [hg]; exact Nat.ne_of_gt (zz (g := gb196) (o := .cells #[.string a1_0, .int .i64 a1_1, .string a1_2] 40 (0, 0)) uj) : gb198 ≠ gb196)); clear BK196; clear HB; have BK196 := n0_; have HB := n1_; have BK198 := n2_; have GW198 := n3_; have GE198 := n4_; have NB196_198 := n5_; have NB198_196 := n6_; clear n0_ n1_ n2_ n3_ n4_ n5_ n6_; clear hb hbox hg; have hnb16 := NB198_196.out; have hnc16 := NB196_198.out; have hcz17_0 : w15.cell? ⟨gb198, 0, none⟩ = some (.string (⟨#[]⟩ : ByteArray)) := (ql BK198.out 0).trans rfl; have hcz17_1 : w15.cell? ⟨gb198, 1, none⟩ = some (.int .i64 0) := (ql BK198.out 1).trans rfl; have hcz17_2 : w15.cell? ⟨gb198, 2, none⟩ = some (.string (⟨#[]⟩ : ByteArray)) := (ql BK198.out 2).trans rfl; have hfz17_0 := qo BK198.out 0; have hfz17_1 := qo BK198.out 1; have hfz17_2 := qo BK198.out 2; have hcz18_0 : w15.cell? ⟨gb196, 0, none⟩ = some (.string a1_0) := (ql BK196.out 0).trans rfl; have hcz18_1 : w15.cell? ⟨gb196, 1, none⟩ = some (.int .i64 a1_1) := (ql BK196.out 1).trans rfl; have hcz18_2 : w15.cell? ⟨gb196, 2, none⟩ = some (.string a1_2) := (ql BK196.out 2).trans rfl; have hfz18_0 := qo BK196.out 0; have hfz18_1 := qo BK196.out 1; have hfz18_2 := qo BK196.out 2) | (go_at_call 168; (with_reducible refine (k7.calls k1 a1_2 ((qn l0 x9_1).f2) false _ A8.out).mono ?_); rintro e w19 ⟨rfl, hb⟩; have n0_ := qa.mk (q9 (g := gb196) (o := .cells #[.string a1_0, .int .i64 a1_1, .string a1_2] 40 (0, 0)) caa hb); have n1_ := qa.mk (q9 (g := gb198) (o := .cells #[.string ((qn l0 x9_1).f0), .int .i64 ((qn l0 x9_1).f1), .string ((qn l0 x9_1).f2)] 40 (0, 0)) (by (with_reducible repeat (first | refine qg ?_ _ | refine qi ?_ | refine qf ?_ _)); refine zu (cs := #[.string ((qn l0 x9_1).f0), .int .i64 ((qn l0 x9_1).f1), .string (⟨#[]⟩ : ByteArray)]) ?_ 2 _ rfl; (with_reducible repeat (first | refine qg ?_ _ | refine qi ?_ | refine qf ?_ _)); refine zu (cs := #[.string ((qn l0 x9_1).f0), .int .i64 0, .string (⟨#[]⟩ : ByteArray)]) ?_ 1 _ rfl; (with_reducible repeat (first | refine qg ?_ _ | refine qi ?_ | refine qf ?_ _)); refine zu (cs := #[.string (⟨#[]⟩ : ByteArray), .int .i64 0, .string (⟨#[]⟩ : ByteArray)]) ?_ 0 _ rfl; (with_reducible repeat (first | refine qg ?_ _ | refine qi ?_ | refine qf ?_ _)); exact BK198.out) hb); have n2_ := qa.mk (qp car hb); clear BK196; clear BK198; clear HB; have BK196 := n0_; have BK198 := n1_; have HB := n2_; clear n0_ n1_ n2_; (try clear hb); (try clear hb2); (try clear hk); (try clear hi)))
        go_roundg k1
        case measure => have := HK1.out; omega
        case rel => exact ⟨(wrap64 (x9_1 + 1)), yf, H', ⟨by have := HK1.out; omega⟩, ⟨by (with_reducible repeat (first | refine qg ?_ _ | refine qi ?_ | refine qf ?_ _)); exact BK196.out⟩, ⟨by repeat (first | (with_reducible first | exact HB.out | apply qc | apply qb | apply qd | refine qe ?_ GE196.out | refine qe ?_ GE198.out) | exact HB.out)⟩⟩
      ·rw [if_neg c7] at H
       have c7b0 : (a1_0.toList == ((qn l0 x9_1).f0).toList) = false := beq_eq_false_iff_ne.mpr c7
       have c7b1 : (a1_0.toList != ((qn l0 x9_1).f0).toList) = true := bne_iff_ne.mpr c7
       have H' := qa.mk H
       clear H
       have p197 : 0 ≤ (x9_1 : Int) := of_decide_eq_true cz
       have q197 : x9_1 < (l0.length : Int) := of_decide_eq_true cz
       obtain ⟨ad197, e197, hx197_0, hx197_1, hx197_2⟩ := k5 HR0.out x9_1 p197 q197
       cases e197
       replace hx197_0 := (HB.out.cell (World.block_lt_of_cell? w _ hx197_0)).trans hx197_0
       replace hx197_1 := (HB.out.cell (World.block_lt_of_cell? w _ hx197_1)).trans hx197_1
       replace hx197_2 := (HB.out.cell (World.block_lt_of_cell? w _ hx197_2)).trans hx197_2
       replace p197 := eq_true p197
       replace q197 := eq_true q197
       go_wp2_with (first | ((with_reducible refine zl (N := 6) rfl ?_); refine zo ?hg (N := 6) ?hd (cs := #[.string (⟨#[]⟩ : ByteArray), .int .i64 0, .string (⟨#[]⟩ : ByteArray)]) (t := 40) ?hr ?_; (case hd => rfl); (case hg => rfl); (case hr => first | (go_simp; done) | (go_simp; rfl)); intro gb198 hg w20 hbox hb; have n0_ := qa.mk (q9 (g := gb196) (o := .cells #[.string a1_0, .int .i64 a1_1, .string a1_2] 40 (0, 0)) uj hb); have n1_ := qa.mk (qp ug hb); have n2_ := qa.mk (hbox); have n3_ := qa.mk ((by rw [hg]; exact (qr ug) : w.heap.size ≤ gb198)); have n4_ := qa.mk ((by rw [hg]; exact (qr ug) : w.heap.size ≤ gb198)); have n5_ := qa.mk ((by rw [hg]; exact Nat.ne_of_lt (zz (g := gb196) (o := .cells #[.string a1_0, .int .i64 a1_1, .string a1_2] 40 (0, 0)) uj) : gb196 ≠ gb198)); have n6_ := qa.mk ((by rw [hg]; exact Nat.ne_of_gt (zz (g := gb196) (o := .cells #[.string a1_0, .int .i64 a1_1, .string a1_2] 40 (0, 0)) uj) : gb198 ≠ gb196)); clear BK196; clear HB; have BK196 := n0_; have HB := n1_; have BK198 := n2_; have GW198 := n3_; have GE198 := n4_; have NB196_198 := n5_; have NB198_196 := n6_; clear n0_ n1_ n2_ n3_ n4_ n5_ n6_; clear hb hbox hg; have hnb21 := NB198_196.out; have hnc21 := NB196_198.out; have hcz22_0 : w20.cell? ⟨gb198, 0, none⟩ = some (.string (⟨#[]⟩ : ByteArray)) := (ql BK198.out 0).trans rfl; have hcz22_1 : w20.cell? ⟨gb198, 1, none⟩ = some (.int .i64 0) := (ql BK198.out 1).trans rfl; have hcz22_2 : w20.cell? ⟨gb198, 2, none⟩ = some (.string (⟨#[]⟩ : ByteArray)) := (ql BK198.out 2).trans rfl; have hfz22_0 := qo BK198.out 0; have hfz22_1 := qo BK198.out 1; have hfz22_2 := qo BK198.out 2; have hcz23_0 : w20.cell? ⟨gb196, 0, none⟩ = some (.string a1_0) := (ql BK196.out 0).trans rfl; have hcz23_1 : w20.cell? ⟨gb196, 1, none⟩ = some (.int .i64 a1_1) := (ql BK196.out 1).trans rfl; have hcz23_2 : w20.cell? ⟨gb196, 2, none⟩ = some (.string a1_2) := (ql BK196.out 2).trans rfl; have hfz23_0 := qo BK196.out 0; have hfz23_1 := qo BK196.out 1; have hfz23_2 := qo BK196.out 2))
       go_roundg k1
       case measure => have := HK1.out; omega
       case rel => exact ⟨(wrap64 (x9_1 + 1)), yf, H', ⟨by have := HK1.out; omega⟩, ⟨by (with_reducible repeat (first | refine qg ?_ _ | refine qi ?_ | refine qf ?_ _)); refine xt ?_ NB196_198.out _; (with_reducible repeat (first | refine qg ?_ _ | refine qi ?_ | refine qf ?_ _)); refine xt ?_ NB196_198.out _; (with_reducible repeat (first | refine qg ?_ _ | refine qi ?_ | refine qf ?_ _)); refine xt ?_ NB196_198.out _; (with_reducible repeat (first | refine qg ?_ _ | refine qi ?_ | refine qf ?_ _)); exact BK196.out⟩, ⟨by repeat (first | (with_reducible first | exact HB.out | apply qc | apply qb | apply qd | refine qe ?_ GE196.out | refine qe ?_ GE198.out) | exact HB.out)⟩⟩
     ·rw [if_neg c6] at H
      exact absurd H yt
    ·rw [if_neg c5] at H
     exact absurd H yt
   ·rw [if_neg c4] at H
    have c4b0 : decide (x9_1 < (l0.length : Int)) = false := decide_eq_false c4
    clear c4
    obtain rfl := Option.some.inj H
    go_wp2
    go_ret
    exact ⟨by first | rfl | (simp [qu, qt] <;> rfl) | (simp [*, qu, qt] <;> rfl), by repeat (first | (with_reducible first | exact HB.out | apply qc | apply qb | apply qd | refine qe ?_ GE196.out) | exact HB.out)⟩
end Go.Proofs.YthdoohfdminfgaaGreatDoor.C
end
section
namespace Go.Proofs.YthdoohfdminfgaaGreatDoor.C
open Go.RowKit Go.Proofs.YthdoohfdminfgaaGreatDoorW.PrintWords Go.Proofs.YthdoohfdminfgaaGreatDoorW.PrintLast Go.Proofs.YthdoohfdminfgaaGreatDoorW.PrintMore
attribute [local go_sem] xa z7 xq xr zx zy xc z8
set_option linter.unusedVariables false
set_option linter.unusedSimpArgs false
def xe.l0 : Nat → List (S40) → List (S40) → Int → Int → Option (Bool)
 | 0, _, _, _, _ => none
 | k + 1, x0, x1, x12, x13 => if x13 < x12 then (if 0 ≤ x13 then (if x13 < (x0.length : Int) then ((xd.f k x1 ((qn x0 x13).f0) ((qn x0 x13).f1) ((qn x0 x13).f2)).bind fun t201 => (if t201 = true then (if x13 < (x1.length : Int) then ((xd.f k x0 ((qn x1 x13).f0) ((qn x1 x13).f1) ((qn x1 x13).f2)).bind fun t203 => (if t203 = true then (xe.l0 k x0 x1 x12 (wrap64 (x13 + 1))) else (some false))) else (none)) else (some false))) else (none)) else (none)) else (some true)
def xe.f (k : Nat) (l0 : List (S40)) (l1 : List (S40)) : Option (Bool) := if (l0.length : Int) = (l1.length : Int) then (xe.l0 k l0 l1 (l0.length : Int) 0) else (some false)
theorem xe.xi : ∀ k, (∀ y0 y1 y2 y3, LeO (xe.l0 k y0 y1 y2 y3) (xe.l0 (k + 1) y0 y1 y2 y3))
 | 0 => fun _ _ _ _ r h => by simp [xe.l0] at h
 | k + 1 => by
  have ih0 := xe.xi k
  ·intro y0 y1 y2 y3
   unfold xe.l0
   repeat' first
   | (with_reducible exact ih0 _ _ _ _)
   | (with_reducible exact xd.mono _ _ _ _ _)
   | (with_reducible exact LeO.refl _)
   | (with_reducible exact LeO.none _)
   | (with_reducible refine LeO.ite ?_ ?_)
   | (with_reducible refine LeO.bind ?_ (fun _ => ?_))
theorem xe.mono : ∀ a0 a1 k, LeO (xe.f k a0 a1) (xe.f (k + 1) a0 a1) := by
 intro a0 a1 k
 have ih0 := xe.xi k
 unfold xe.f
 repeat' first
   | (with_reducible exact ih0 _ _ _ _)
   | (with_reducible exact xd.mono _ _ _ _ _)
   | (with_reducible exact LeO.refl _)
   | (with_reducible exact LeO.none _)
   | (with_reducible refine LeO.ite ?_ ?_)
   | (with_reducible refine LeO.bind ?_ (fun _ => ?_))
set_option maxHeartbeats 8000000 in
set_option maxRecDepth 100000 in
theorem xe.calls (k : Nat) (A0 : Option Addr) (c0 : Nat) (l0 : List (S40)) (A1 : Option Addr) (c1 : Nat) (l1 : List (S40)) (r : Bool) (w : World) (hr0 : Kd.C k40 w A0 l0.length l0) (hc0 : l0.length ≤ c0) (hr1 : Kd.C k40 w A1 l1.length l1) (hc1 : l1.length ≤ c1) (h : xe.f k l0 l1 = some r) :
  Calls Tryz.prog 95 #[.slice A0 l0.length c0, .slice A1 l1.length c1] w fun e w' => e = .returned (.bool r) ∧ Below w.heap.size w w' := by
 have hu40 := Tryz.underlying40
 have HR0 := qa.mk hr0
 have HC0 := qa.mk hc0
 clear hr0 hc0
 have HR1 := qa.mk hr1
 have HC1 := qa.mk hc1
 clear hr1 hc1
 have HB := qa.mk (Below.refl w.heap.size w)
 have H : (if (l0.length : Int) = (l1.length : Int) then (xe.l0 k l0 l1 (l0.length : Int) 0) else (some false)) = some r := h
 clear h
 by_cases c3 : (l0.length : Int) = (l1.length : Int)
 ·rw [if_pos c3] at H
  have c3b0 : ((l0.length : Int) == (l1.length : Int)) = true := beq_iff_eq.mpr c3
  have c3b1 : ((l0.length : Int) != (l1.length : Int)) = false := bne_eq_false_iff_eq.mpr c3
  have c3b2 : (l0.length == l1.length) = true := by first | simpa using c3 | (simp at c3 ⊢; omega)
  clear c3
  have H' := qa.mk H
  clear H
  go_enter Tryz.func95, Tryz.ntmps95
  go_wp2
  go_loopg [13] k (fun kq v13 w' => ∃ (x13_1 : Int), v13 = .int .i64 x13_1 ∧ qa (xe.l0 kq l0 l1 (l0.length : Int) x13_1 = some r) ∧ qa (kq ≤ k) ∧ qa (Below w.heap.size w w'))
  case atStart => exact ⟨(0), yf, H', ⟨Nat.le_refl _⟩, ⟨by repeat (first | (with_reducible first | exact HB.out | apply qc | apply qb | apply qd) | exact HB.out)⟩⟩
  case round =>
   clear H'
   (try clear c1); (try clear p2); (try clear c3); (try clear c3b0); (try clear c3b1); try clear c3b2
   obtain ⟨x13_1, rfl, HA, HK1, HB⟩ := hrel
   cases gk with
   | zero => exact absurd HA.out (by simp [xe.l0])
   | succ k1 =>
    have H := HA.out
    clear HA
    simp only [xe.l0] at H
    by_cases c4 : x13_1 < (l0.length : Int)
    ·rw [if_pos c4] at H
     have c4b0 : decide (x13_1 < (l0.length : Int)) = true := decide_eq_true c4
     clear c4
     by_cases c5 : 0 ≤ x13_1
     ·rw [if_pos c5] at H
      have c5b0 : decide (0 ≤ x13_1) = true := decide_eq_true c5
      clear c5
      by_cases c6 : x13_1 < (l0.length : Int)
      ·rw [if_pos c6] at H
       have c6b0 : decide (x13_1 < (l0.length : Int)) = true := decide_eq_true c6
       clear c6
       replace H := Option.bind_eq_some_iff.mp H
       obtain ⟨t201, A70, H⟩ := H
       replace H : (if t201 = true then (if x13_1 < (l1.length : Int) then ((xd.f k1 l0 ((qn l1 x13_1).f0) ((qn l1 x13_1).f1) ((qn l1 x13_1).f2)).bind fun t203 => (if t203 = true then (xe.l0 k1 l0 l1 (l0.length : Int) (wrap64 (x13_1 + 1))) else (some false))) else (none)) else (some false)) = some r := H
       have A7 := qa.mk A70
       clear A70
       by_cases c8 : t201 = true
       ·subst c8
        have H1 : (if x13_1 < (l1.length : Int) then ((xd.f k1 l0 ((qn l1 x13_1).f0) ((qn l1 x13_1).f1) ((qn l1 x13_1).f2)).bind fun t203 => (if t203 = true then (xe.l0 k1 l0 l1 (l0.length : Int) (wrap64 (x13_1 + 1))) else (some false))) else (none)) = some r := by rw [if_pos rfl] at H; exact H
        clear H
        have H := H1
        clear H1
        by_cases c9 : x13_1 < (l1.length : Int)
        ·rw [if_pos c9] at H
         have c9b0 : decide (x13_1 < (l1.length : Int)) = true := decide_eq_true c9
         clear c9
         replace H := Option.bind_eq_some_iff.mp H
         obtain ⟨t203, A100, H⟩ := H
         replace H : (if t203 = true then (xe.l0 k1 l0 l1 (l0.length : Int) (wrap64 (x13_1 + 1))) else (some false)) = some r := H
         have A10 := qa.mk A100
         clear A100
         by_cases c11 : t203 = true
         ·subst c11
          have H1 : (xe.l0 k1 l0 l1 (l0.length : Int) (wrap64 (x13_1 + 1))) = some r := by rw [if_pos rfl] at H; exact H
          clear H
          have H := H1
          clear H1
          have H' := qa.mk H
          clear H
          have p200 : 0 ≤ (x13_1 : Int) := of_decide_eq_true cz
          have q200 : x13_1 < (l0.length : Int) := of_decide_eq_true cz
          obtain ⟨ad200, e200, hx200_0, hx200_1, hx200_2⟩ := k5 HR0.out x13_1 p200 q200
          cases e200
          replace hx200_0 := (HB.out.cell (World.block_lt_of_cell? w _ hx200_0)).trans hx200_0
          replace hx200_1 := (HB.out.cell (World.block_lt_of_cell? w _ hx200_1)).trans hx200_1
          replace hx200_2 := (HB.out.cell (World.block_lt_of_cell? w _ hx200_2)).trans hx200_2
          replace p200 := eq_true p200
          replace q200 := eq_true q200
          go_wp2_with (first | ((with_reducible refine zn (f := 140) rfl ?_); refine kd (some 21) rfl rfl Tryz.func140 yj rfl #[.slice A1 l1.length c1, .agg #[.string ((qn l0 x13_1).f0), .int .i64 ((qn l0 x13_1).f1), .string ((qn l0 x13_1).f2)]] rfl yc ?_; (with_reducible refine (xd.calls k1 _ _ l1 ((qn l0 x13_1).f0) ((qn l0 x13_1).f1) ((qn l0 x13_1).f2) true _ ?side1 ?side2 A7.out).mono ?_); (case side1 => repeat (first | exact (Kd.ki HR1.out HB.out) | (with_reducible refine Kd.kr ?_ _) | (with_reducible refine Kd.ks ?_ _) | (with_reducible refine Kd.ky ?_))); (case side2 => exact HC1.out); rintro e w12 ⟨rfl, hb⟩; refine ⟨_, rfl, ?_⟩; have n0_ := qa.mk (qp cu hb); clear HB; have HB := n0_; clear n0_; (try clear hb); (try clear hb2); (try clear hk); (try clear hi); have p202 : 0 ≤ (x13_1 : Int) := of_decide_eq_true cz; have q202 : x13_1 < (l1.length : Int) := of_decide_eq_true cz; obtain ⟨ad202, e202, hx202_0, hx202_1, hx202_2⟩ := k5 HR1.out x13_1 p202 q202; cases e202; replace hx202_0 := (HB.out.cell (World.block_lt_of_cell? w _ hx202_0)).trans hx202_0; replace hx202_1 := (HB.out.cell (World.block_lt_of_cell? w _ hx202_1)).trans hx202_1; replace hx202_2 := (HB.out.cell (World.block_lt_of_cell? w _ hx202_2)).trans hx202_2; replace p202 := eq_true p202; replace q202 := eq_true q202) | (go_at_call 140; (with_reducible refine (xd.calls k1 _ _ l0 ((qn l1 x13_1).f0) ((qn l1 x13_1).f1) ((qn l1 x13_1).f2) true _ ?side1 ?side2 A10.out).mono ?_); (case side1 => repeat (first | exact (Kd.ki HR0.out HB.out) | (with_reducible refine Kd.kr ?_ _) | (with_reducible refine Kd.ks ?_ _) | (with_reducible refine Kd.ky ?_))); (case side2 => exact HC0.out); rintro e w13 ⟨rfl, hb⟩; have n0_ := qa.mk (qp cu hb); clear HB; have HB := n0_; clear n0_; (try clear hb); (try clear hb2); (try clear hk); (try clear hi)))
          go_roundg k1
          case measure => have := HK1.out; omega
          case rel => exact ⟨(wrap64 (x13_1 + 1)), yf, H', ⟨by have := HK1.out; omega⟩, ⟨by repeat (first | (with_reducible first | exact HB.out | apply qc | apply qb | apply qd) | exact HB.out)⟩⟩
         ·replace c11 := Bool.eq_false_iff.mpr c11
          subst c11
          have H1 : (some false) = some r := by rw [if_neg (show ¬ (false = true) by decide)] at H; exact H
          clear H
          have H := H1
          clear H1
          obtain rfl := Option.some.inj H
          have p200 : 0 ≤ (x13_1 : Int) := of_decide_eq_true cz
          have q200 : x13_1 < (l0.length : Int) := of_decide_eq_true cz
          obtain ⟨ad200, e200, hx200_0, hx200_1, hx200_2⟩ := k5 HR0.out x13_1 p200 q200
          cases e200
          replace hx200_0 := (HB.out.cell (World.block_lt_of_cell? w _ hx200_0)).trans hx200_0
          replace hx200_1 := (HB.out.cell (World.block_lt_of_cell? w _ hx200_1)).trans hx200_1
          replace hx200_2 := (HB.out.cell (World.block_lt_of_cell? w _ hx200_2)).trans hx200_2
          replace p200 := eq_true p200
          replace q200 := eq_true q200
          go_wp2_with (first | ((with_reducible refine zn (f := 140) rfl ?_); refine kd (some 21) rfl rfl Tryz.func140 yj rfl #[.slice A1 l1.length c1, .agg #[.string ((qn l0 x13_1).f0), .int .i64 ((qn l0 x13_1).f1), .string ((qn l0 x13_1).f2)]] rfl yc ?_; (with_reducible refine (xd.calls k1 _ _ l1 ((qn l0 x13_1).f0) ((qn l0 x13_1).f1) ((qn l0 x13_1).f2) true _ ?side1 ?side2 A7.out).mono ?_); (case side1 => repeat (first | exact (Kd.ki HR1.out HB.out) | (with_reducible refine Kd.kr ?_ _) | (with_reducible refine Kd.ks ?_ _) | (with_reducible refine Kd.ky ?_))); (case side2 => exact HC1.out); rintro e w14 ⟨rfl, hb⟩; refine ⟨_, rfl, ?_⟩; have n0_ := qa.mk (qp cu hb); clear HB; have HB := n0_; clear n0_; (try clear hb); (try clear hb2); (try clear hk); (try clear hi); have p202 : 0 ≤ (x13_1 : Int) := of_decide_eq_true cz; have q202 : x13_1 < (l1.length : Int) := of_decide_eq_true cz; obtain ⟨ad202, e202, hx202_0, hx202_1, hx202_2⟩ := k5 HR1.out x13_1 p202 q202; cases e202; replace hx202_0 := (HB.out.cell (World.block_lt_of_cell? w _ hx202_0)).trans hx202_0; replace hx202_1 := (HB.out.cell (World.block_lt_of_cell? w _ hx202_1)).trans hx202_1; replace hx202_2 := (HB.out.cell (World.block_lt_of_cell? w _ hx202_2)).trans hx202_2; replace p202 := eq_true p202; replace q202 := eq_true q202) | (go_at_call 140; (with_reducible refine (xd.calls k1 _ _ l0 ((qn l1 x13_1).f0) ((qn l1 x13_1).f1) ((qn l1 x13_1).f2) false _ ?side1 ?side2 A10.out).mono ?_); (case side1 => repeat (first | exact (Kd.ki HR0.out HB.out) | (with_reducible refine Kd.kr ?_ _) | (with_reducible refine Kd.ks ?_ _) | (with_reducible refine Kd.ky ?_))); (case side2 => exact HC0.out); rintro e w15 ⟨rfl, hb⟩; have n0_ := qa.mk (qp cu hb); clear HB; have HB := n0_; clear n0_; (try clear hb); (try clear hb2); (try clear hk); (try clear hi)))
          go_ret
          exact ⟨by first | rfl | (simp [qu, qt] <;> rfl) | (simp [*, qu, qt] <;> rfl), by repeat (first | (with_reducible first | exact HB.out | apply qc | apply qb | apply qd) | exact HB.out)⟩
        ·rw [if_neg c9] at H
         exact absurd H yt
       ·replace c8 := Bool.eq_false_iff.mpr c8
        subst c8
        have H1 : (some false) = some r := by rw [if_neg (show ¬ (false = true) by decide)] at H; exact H
        clear H
        have H := H1
        clear H1
        obtain rfl := Option.some.inj H
        have p200 : 0 ≤ (x13_1 : Int) := of_decide_eq_true cz
        have q200 : x13_1 < (l0.length : Int) := of_decide_eq_true cz
        obtain ⟨ad200, e200, hx200_0, hx200_1, hx200_2⟩ := k5 HR0.out x13_1 p200 q200
        cases e200
        replace hx200_0 := (HB.out.cell (World.block_lt_of_cell? w _ hx200_0)).trans hx200_0
        replace hx200_1 := (HB.out.cell (World.block_lt_of_cell? w _ hx200_1)).trans hx200_1
        replace hx200_2 := (HB.out.cell (World.block_lt_of_cell? w _ hx200_2)).trans hx200_2
        replace p200 := eq_true p200
        replace q200 := eq_true q200
        go_wp2_with (first | ((with_reducible refine zn (f := 140) rfl ?_); refine kd (some 21) rfl rfl Tryz.func140 yj rfl #[.slice A1 l1.length c1, .agg #[.string ((qn l0 x13_1).f0), .int .i64 ((qn l0 x13_1).f1), .string ((qn l0 x13_1).f2)]] rfl yc ?_; (with_reducible refine (xd.calls k1 _ _ l1 ((qn l0 x13_1).f0) ((qn l0 x13_1).f1) ((qn l0 x13_1).f2) false _ ?side1 ?side2 A7.out).mono ?_); (case side1 => repeat (first | exact (Kd.ki HR1.out HB.out) | (with_reducible refine Kd.kr ?_ _) | (with_reducible refine Kd.ks ?_ _) | (with_reducible refine Kd.ky ?_))); (case side2 => exact HC1.out); rintro e w16 ⟨rfl, hb⟩; refine ⟨_, rfl, ?_⟩; have n0_ := qa.mk (qp cu hb); clear HB; have HB := n0_; clear n0_; (try clear hb); (try clear hb2); (try clear hk); (try clear hi)))
        go_ret
        exact ⟨by first | rfl | (simp [qu, qt] <;> rfl) | (simp [*, qu, qt] <;> rfl), by repeat (first | (with_reducible first | exact HB.out | apply qc | apply qb | apply qd) | exact HB.out)⟩
      ·rw [if_neg c6] at H
       exact absurd H yt
     ·rw [if_neg c5] at H
      exact absurd H yt
    ·rw [if_neg c4] at H
     have c4b0 : decide (x13_1 < (l0.length : Int)) = false := decide_eq_false c4
     clear c4
     obtain rfl := Option.some.inj H
     go_wp2
     go_ret
     exact ⟨by first | rfl | (simp [qu, qt] <;> rfl) | (simp [*, qu, qt] <;> rfl), by repeat (first | (with_reducible first | exact HB.out | apply qc | apply qb | apply qd) | exact HB.out)⟩
 ·rw [if_neg c3] at H
  have c3b0 : ((l0.length : Int) == (l1.length : Int)) = false := beq_eq_false_iff_ne.mpr c3
  have c3b1 : ((l0.length : Int) != (l1.length : Int)) = true := bne_iff_ne.mpr c3
  have c3b2 : (l0.length == l1.length) = false := by first | simpa using c3 | (simp at c3 ⊢; omega)
  obtain rfl := Option.some.inj H
  go_enter Tryz.func95, Tryz.ntmps95
  go_wp2
  go_ret
  exact ⟨by first | rfl | (simp [qu, qt] <;> rfl) | (simp [*, qu, qt] <;> rfl), by repeat (first | (with_reducible first | exact HB.out | apply qc | apply qb | apply qd) | exact HB.out)⟩
end Go.Proofs.YthdoohfdminfgaaGreatDoor.C
end
section
namespace Go.Proofs.YthdoohfdminfgaaGreatDoor.C
open Go.RowKit Go.Proofs.YthdoohfdminfgaaGreatDoorW.PrintWords Go.Proofs.YthdoohfdminfgaaGreatDoorW.PrintLast Go.Proofs.YthdoohfdminfgaaGreatDoorW.PrintMore
attribute [local go_sem] xa z7 xq xr zx zy xc z8
set_option linter.unusedVariables false
set_option linter.unusedSimpArgs false
def zt.l0 : Nat → Int → Int → List (List (S40)) → List (List (S40)) → Option (Bool)
 | 0, _, _, _, _ => none
 | k + 1, x15, x16, x205000, x206000 => if x16 < x15 then (if 0 ≤ x16 then (if x16 < (x205000.length : Int) then (if x16 < (x206000.length : Int) then ((xe.f k (xx x205000 x16) (xx x206000 x16)).bind fun t208 => (if t208 = true then (zt.l0 k x15 (wrap64 (x16 + 1)) x205000 x206000) else (some false))) else (none)) else (none)) else (none)) else (some true)
def zt.f (k : Nat) (l0_0 : List (List (S40))) (l1_0 : List (List (S40))) : Option (Bool) := if (l1_0.length : Int) > (l0_0.length : Int) then (some false) else (zt.l0 k (l1_0.length : Int) 0 l0_0 l1_0)
theorem zt.xi : ∀ k, (∀ y0 y1 y2 y3, LeO (zt.l0 k y0 y1 y2 y3) (zt.l0 (k + 1) y0 y1 y2 y3))
 | 0 => fun _ _ _ _ r h => by simp [zt.l0] at h
 | k + 1 => by
  have ih0 := zt.xi k
  ·intro y0 y1 y2 y3
   unfold zt.l0
   repeat' first
   | (with_reducible exact ih0 _ _ _ _)
   | (with_reducible exact xe.mono _ _ _)
   | (with_reducible exact LeO.refl _)
   | (with_reducible exact LeO.none _)
   | (with_reducible refine LeO.ite ?_ ?_)
   | (with_reducible refine LeO.bind ?_ (fun _ => ?_))
theorem zt.mono : ∀ a0 a1 k, LeO (zt.f k a0 a1) (zt.f (k + 1) a0 a1) := by
 intro a0 a1 k
 have ih0 := zt.xi k
 unfold zt.f
 repeat' first
   | (with_reducible exact ih0 _ _ _ _)
   | (with_reducible exact xe.mono _ _ _)
   | (with_reducible exact LeO.refl _)
   | (with_reducible exact LeO.none _)
   | (with_reducible refine LeO.ite ?_ ?_)
   | (with_reducible refine LeO.bind ?_ (fun _ => ?_))
def zt.T6 : Bool × List (List Nat × List Nat) := (true, [([], []), ([0], [0]), ([], []), ([1, 2], [1, 2]), ([3], [3]), ([], []), ([5], [5]), ([], []), ([6, 7], [6, 7]), ([8], [8]), ([4, 9], [4, 9]), ([10], [10])])
def zt.B6 : List Nat := [0, 1, 0, 7, 15, 0, 32, 0, 224, 480, 1023, 2047]
theorem zt.tab6 : rtab .any (opsOf Tryz.f63 6) = zt.T6 := by kernel_rfl
theorem zt.bits6 : waitsOk zt.T6.2 zt.B6 = true := by kernel_rfl
set_option maxHeartbeats 8000000 in
set_option maxRecDepth 100000 in
theorem zt.calls (k : Nat) (A0_0 : Option Addr) (c0_0 : Nat) (l0_0 : List (List (S40))) (A1_0 : Option Addr) (c1_0 : Nat) (l1_0 : List (List (S40))) (r : Bool) (w : World) (hr0_0 : Kd.C (Kd.slice 40 k40) w A0_0 l0_0.length l0_0) (hc0_0 : l0_0.length ≤ c0_0) (hr1_0 : Kd.C (Kd.slice 40 k40) w A1_0 l1_0.length l1_0) (hc1_0 : l1_0.length ≤ c1_0) (h : zt.f k l0_0 l1_0 = some r) :
  Calls Tryz.prog 63 #[.agg #[.slice A0_0 l0_0.length c0_0], .agg #[.slice A1_0 l1_0.length c1_0]] w fun e w' => e = .returned (.bool r) ∧ Below w.heap.size w w' := by
 have hu31 := Tryz.underlying31
 have HR0_0 := qa.mk hr0_0
 have HC0_0 := qa.mk hc0_0
 clear hr0_0 hc0_0
 have HR1_0 := qa.mk hr1_0
 have HC1_0 := qa.mk hc1_0
 clear hr1_0 hc1_0
 have HB := qa.mk (Below.refl w.heap.size w)
 have H : (if (l1_0.length : Int) > (l0_0.length : Int) then (some false) else (zt.l0 k (l1_0.length : Int) 0 l0_0 l1_0)) = some r := h
 clear h
 by_cases c3 : (l1_0.length : Int) > (l0_0.length : Int)
 ·rw [if_pos c3] at H
  have c3b0 : decide ((l0_0.length : Int) < (l1_0.length : Int)) = true := decide_eq_true c3
  have c3b1 : decide (l0_0.length < l1_0.length) = true := decide_eq_true (Int.ofNat_lt.mp c3)
  clear c3
  obtain rfl := Option.some.inj H
  go_enter Tryz.func63, Tryz.ntmps63
  go_wp2_with (first | ((with_reducible refine zl (N := 2) rfl ?_); refine zo ?hg (N := 2) ?hd (cs := #[.slice A0_0 l0_0.length c0_0]) (t := 31) ?hr ?_; (case hd => rfl); (case hg => rfl); (case hr => first | (go_simp; done) | (go_simp; rfl)); intro gb204 hg w4 hbox hb; have n0_ := qa.mk (qp cu hb); have n1_ := qa.mk (hbox); have n2_ := qa.mk ((by rw [hg]; exact (qr cu) : w.heap.size ≤ gb204)); have n3_ := qa.mk ((by rw [hg]; exact (qr cu) : w.heap.size ≤ gb204)); clear HB; have HB := n0_; have BK204 := n1_; have GW204 := n2_; have GE204 := n3_; clear n0_ n1_ n2_ n3_; clear hb hbox hg) | ((with_reducible refine zl (N := 3) rfl ?_); refine zo ?hg (N := 3) ?hd (cs := #[.slice A1_0 l1_0.length c1_0]) (t := 31) ?hr ?_; (case hd => rfl); (case hg => rfl); (case hr => first | (go_simp; done) | (go_simp; rfl)); intro gb205 hg w5 hbox hb; have n0_ := qa.mk (q9 (g := gb204) (o := .cells #[.slice A0_0 l0_0.length c0_0] 31 (0, 0)) uo hb); have n1_ := qa.mk (qp uy hb); have n2_ := qa.mk (hbox); have n3_ := qa.mk ((by rw [hg]; exact (qr uy) : w.heap.size ≤ gb205)); have n4_ := qa.mk ((by rw [hg]; exact (qr uy) : w.heap.size ≤ gb205)); have n5_ := qa.mk ((by rw [hg]; exact Nat.ne_of_lt (zz (g := gb204) (o := .cells #[.slice A0_0 l0_0.length c0_0] 31 (0, 0)) uo) : gb204 ≠ gb205)); have n6_ := qa.mk ((by rw [hg]; exact Nat.ne_of_gt (zz (g := gb204) (o := .cells #[.slice A0_0 l0_0.length c0_0] 31 (0, 0)) uo) : gb205 ≠ gb204)); clear BK204; clear HB; have BK204 := n0_; have HB := n1_; have BK205 := n2_; have GW205 := n3_; have GE205 := n4_; have NB204_205 := n5_; have NB205_204 := n6_; clear n0_ n1_ n2_ n3_ n4_ n5_ n6_; clear hb hbox hg; have hnb6 := NB205_204.out; have hnc6 := NB204_205.out; have hcz7_0 : w5.cell? ⟨gb205, 0, none⟩ = some (.slice A1_0 l1_0.length c1_0) := (ql BK205.out 0).trans rfl; have hfz7_0 := qo BK205.out 0; have hcz8_0 : w5.cell? ⟨gb204, 0, none⟩ = some (.slice A0_0 l0_0.length c0_0) := (ql BK204.out 0).trans rfl; have hfz8_0 := qo BK204.out 0))
  go_ret
  exact ⟨by first | rfl | (simp [qu, qt] <;> rfl) | (simp [*, qu, qt] <;> rfl), by repeat (first | (with_reducible first | exact HB.out | apply qc | apply qb | apply qd | refine qe ?_ GE204.out | refine qe ?_ GE205.out) | exact HB.out)⟩
 ·rw [if_neg c3] at H
  have c3b0 : decide ((l0_0.length : Int) < (l1_0.length : Int)) = false := decide_eq_false c3
  have c3b1 : decide (l0_0.length < l1_0.length) = false := decide_eq_false (fun h => c3 (Int.ofNat_lt.mpr h))
  clear c3
  have H' := qa.mk H
  clear H
  go_enter Tryz.func63, Tryz.ntmps63
  go_wp2_with (first | ((with_reducible refine zl (N := 2) rfl ?_); refine zo ?hg (N := 2) ?hd (cs := #[.slice A0_0 l0_0.length c0_0]) (t := 31) ?hr ?_; (case hd => rfl); (case hg => rfl); (case hr => first | (go_simp; done) | (go_simp; rfl)); intro gb204 hg w9 hbox hb; have n0_ := qa.mk (qp cu hb); have n1_ := qa.mk (hbox); have n2_ := qa.mk ((by rw [hg]; exact (qr cu) : w.heap.size ≤ gb204)); have n3_ := qa.mk ((by rw [hg]; exact (qr cu) : w.heap.size ≤ gb204)); clear HB; have HB := n0_; have BK204 := n1_; have GW204 := n2_; have GE204 := n3_; clear n0_ n1_ n2_ n3_; clear hb hbox hg) | ((with_reducible refine zl (N := 3) rfl ?_); refine zo ?hg (N := 3) ?hd (cs := #[.slice A1_0 l1_0.length c1_0]) (t := 31) ?hr ?_; (case hd => rfl); (case hg => rfl); (case hr => first | (go_simp; done) | (go_simp; rfl)); intro gb205 hg w10 hbox hb; have n0_ := qa.mk (q9 (g := gb204) (o := .cells #[.slice A0_0 l0_0.length c0_0] 31 (0, 0)) uo hb); have n1_ := qa.mk (qp uy hb); have n2_ := qa.mk (hbox); have n3_ := qa.mk ((by rw [hg]; exact (qr uy) : w.heap.size ≤ gb205)); have n4_ := qa.mk ((by rw [hg]; exact (qr uy) : w.heap.size ≤ gb205)); have n5_ := qa.mk ((by rw [hg]; exact Nat.ne_of_lt (zz (g := gb204) (o := .cells #[.slice A0_0 l0_0.length c0_0] 31 (0, 0)) uo) : gb204 ≠ gb205)); have n6_ := qa.mk ((by rw [hg]; exact Nat.ne_of_gt (zz (g := gb204) (o := .cells #[.slice A0_0 l0_0.length c0_0] 31 (0, 0)) uo) : gb205 ≠ gb204)); clear BK204; clear HB; have BK204 := n0_; have HB := n1_; have BK205 := n2_; have GW205 := n3_; have GE205 := n4_; have NB204_205 := n5_; have NB205_204 := n6_; clear n0_ n1_ n2_ n3_ n4_ n5_ n6_; clear hb hbox hg; have hnb11 := NB205_204.out; have hnc11 := NB204_205.out; have hcz12_0 : w10.cell? ⟨gb205, 0, none⟩ = some (.slice A1_0 l1_0.length c1_0) := (ql BK205.out 0).trans rfl; have hfz12_0 := qo BK205.out 0; have hcz13_0 : w10.cell? ⟨gb204, 0, none⟩ = some (.slice A0_0 l0_0.length c0_0) := (ql BK204.out 0).trans rfl; have hfz13_0 := qo BK204.out 0))
  go_loopg [16] k (fun kq v16 w' => ∃ (x16_1 : Int), v16 = .int .i64 x16_1 ∧ qa (zt.l0 kq (l1_0.length : Int) x16_1 l0_0 l1_0 = some r) ∧ qa (kq ≤ k) ∧ qa (w'.heap[gb204]? = some (.cells #[(.slice A0_0 l0_0.length c0_0)] 31 (0, 0))) ∧ qa (w'.heap[gb205]? = some (.cells #[(.slice A1_0 l1_0.length c1_0)] 31 (0, 0))) ∧ qa (Below w.heap.size w w'))
  case atStart => exact ⟨(0), yf, H', ⟨Nat.le_refl _⟩, ⟨by (with_reducible repeat (first | refine qg ?_ _ | refine qi ?_ | refine qf ?_ _)); exact BK204.out⟩, ⟨by (with_reducible repeat (first | refine qg ?_ _ | refine qi ?_ | refine qf ?_ _)); exact BK205.out⟩, ⟨by repeat (first | (with_reducible first | exact HB.out | apply qc | apply qb | apply qd | refine qe ?_ GE204.out | refine qe ?_ GE205.out) | exact HB.out)⟩⟩
  case round =>
   clear H'
   (try clear c1); (try clear p2); (try clear c3); (try clear c3b0); (try clear c3b1); (try clear c6); (try clear c11); (try clear hcz12_0); (try clear hcz13_0); (try clear hcz7_0); try clear hcz8_0
   (try clear hfz12_0); (try clear hfz13_0); (try clear hfz7_0); try clear hfz8_0
   obtain ⟨x16_1, rfl, HA, HK1, BK204, BK205, HB⟩ := hrel
   cases gk with
   | zero => exact absurd HA.out (by simp [zt.l0])
   | succ k1 =>
    have H := HA.out
    clear HA
    simp only [zt.l0] at H
    by_cases c14 : x16_1 < (l1_0.length : Int)
    ·rw [if_pos c14] at H
     have c14b0 : decide (x16_1 < (l1_0.length : Int)) = true := decide_eq_true c14
     clear c14
     by_cases c15 : 0 ≤ x16_1
     ·rw [if_pos c15] at H
      have c15b0 : decide (0 ≤ x16_1) = true := decide_eq_true c15
      clear c15
      by_cases c16 : x16_1 < (l0_0.length : Int)
      ·rw [if_pos c16] at H
       have c16b0 : decide (x16_1 < (l0_0.length : Int)) = true := decide_eq_true c16
       clear c16
       by_cases c17 : x16_1 < (l1_0.length : Int)
       ·rw [if_pos c17] at H
        have c17b0 : decide (x16_1 < (l1_0.length : Int)) = true := decide_eq_true c17
        clear c17
        replace H := Option.bind_eq_some_iff.mp H
        obtain ⟨t208, A180, H⟩ := H
        replace H : (if t208 = true then (zt.l0 k1 (l1_0.length : Int) (wrap64 (x16_1 + 1)) l0_0 l1_0) else (some false)) = some r := H
        have A18 := qa.mk A180
        clear A180
        by_cases c19 : t208 = true
        ·subst c19
         have H1 : (zt.l0 k1 (l1_0.length : Int) (wrap64 (x16_1 + 1)) l0_0 l1_0) = some r := by rw [if_pos rfl] at H; exact H
         clear H
         have H := H1
         clear H1
         have H' := qa.mk H
         clear H
         try go_wp2
         have n0_ := qa.mk (qi BK204.out)
         have n1_ := qa.mk (qi BK205.out)
         have n2_ := qa.mk (qd HB.out)
         clear BK204
         clear BK205
         clear HB
         have BK204 := n0_
         have BK205 := n1_
         have HB := n2_
         clear n0_ n1_ n2_
         have p206 : 0 ≤ (x16_1 : Int) := of_decide_eq_true cz
         have q206 : x16_1 < (l0_0.length : Int) := of_decide_eq_true cz
         obtain ⟨ad206, A206_0, c206_0, e206, hx206_0, hl206_0, hi206_0⟩ := at_L5 HR0_0.out x16_1 p206 q206
         have hw206_0 := hx206_0
         cases e206
         replace hx206_0 := (HB.out.cell (World.block_lt_of_cell? w _ hx206_0)).trans hx206_0
         have HR206_0 := qa.mk hi206_0
         have HC206_0 := qa.mk hl206_0
         clear hi206_0 hl206_0
         replace p206 := eq_true p206
         replace q206 := eq_true q206
         have p207 : 0 ≤ (x16_1 : Int) := of_decide_eq_true cz
         have q207 : x16_1 < (l1_0.length : Int) := of_decide_eq_true cz
         obtain ⟨ad207, A207_0, c207_0, e207, hx207_0, hl207_0, hi207_0⟩ := at_L5 HR1_0.out x16_1 p207 q207
         have hw207_0 := hx207_0
         cases e207
         replace hx207_0 := (HB.out.cell (World.block_lt_of_cell? w _ hx207_0)).trans hx207_0
         have HR207_0 := qa.mk hi207_0
         have HC207_0 := qa.mk hl207_0
         clear hi207_0 hl207_0
         replace p207 := eq_true p207
         replace q207 := eq_true q207
         refine start_ (n := 12) (S := fun w' => w'.cell? ⟨gb204, 0, none⟩ = some (.slice (some ad206) l0_0.length c0_0) ∧ w'.cell? ⟨gb205, 0, none⟩ = some (.slice (some ad207) l1_0.length c1_0) ∧ w'.cell? (ad206.add (x16_1).toNat) = some (.slice A206_0 (xx l0_0 x16_1).length c206_0) ∧ w'.cell? (ad207.add (x16_1).toNat) = some (.slice A207_0 (xx l1_0 x16_1).length c207_0)) (ds := []) #[false, false, false, false, false, false, false, false, false, false, false, false] yj rfl rfl ⟨(ql BK204.out 0).trans rfl, (ql BK205.out 0).trans rfl, ((HB.out.cell (World.block_lt_of_cell? w _ hw206_0)).trans hw206_0), ((HB.out.cell (World.block_lt_of_cell? w _ hw207_0)).trans hw207_0)⟩ (fun hHeld => ?_); refine with_tabW zt.tab6 zt.bits6 (fun HT_ HW_ => ?_)
         generalize wr.drew = w20 at BK204 BK205 HB HR206_0 HR207_0 hx206_0 hx207_0 hHeld ⊢
         refine ko (i := 0) (N := some 19) (v := ?_) (a' := ?_) #[true, false, false, false, false, false, false, false, false, false, false, false] rfl rfl (xw HT_.out yj) (fun _ _ _ h => h) (Or.inl ⟨by rfl, ?_⟩) ?_ ?_
         rotate_left
         ·intro w'
          go_simp
          with_reducible rfl
         rotate_left
         ·simp only [Act.put, List.setIfInBounds_toArray, List.set_cons_zero, List.set_cons_succ, zm, zq]
          rfl
         refine ko (i := 2) (N := some 21) (v := ?_) (a' := ?_) #[true, false, true, false, false, false, false, false, false, false, false, false] rfl rfl (xw HT_.out yj) (fun _ _ _ h => h) (Or.inl ⟨by rfl, ?_⟩) ?_ ?_
         rotate_left
         ·intro w'
          go_simp
          with_reducible rfl
         rotate_left
         ·simp only [Act.put, List.setIfInBounds_toArray, List.set_cons_zero, List.set_cons_succ, zm, zq]
          rfl
         refine ko (i := 5) (N := some 24) (v := ?_) (a' := ?_) #[true, false, true, false, false, true, false, false, false, false, false, false] rfl rfl (xw HT_.out yj) (fun _ _ _ h => h) (Or.inl ⟨by rfl, ?_⟩) ?_ ?_
         rotate_left
         ·intro w'
          go_simp
          with_reducible rfl
         rotate_left
         ·simp only [Act.put, List.setIfInBounds_toArray, List.set_cons_zero, List.set_cons_succ, zm, zq]
          rfl
         refine ko (i := 7) (N := some 26) (v := ?_) (a' := ?_) #[true, false, true, false, false, true, false, true, false, false, false, false] rfl rfl (xw HT_.out yj) (fun _ _ _ h => h) (Or.inl ⟨by rfl, ?_⟩) ?_ ?_
         rotate_left
         ·intro w'
          go_simp
          with_reducible rfl
         rotate_left
         ·simp only [Act.put, List.setIfInBounds_toArray, List.set_cons_zero, List.set_cons_succ, zm, zq]
          rfl
         refine jb (i := 1) (N := some 20) (v := ?_) (a' := ?_) #[true, true, true, false, false, true, false, true, false, false, false, false] rfl rfl (kf HT_.out HW_.out yj) (fun _ _ _ h => h) (Or.inl ⟨by rfl, ?_⟩) hHeld ?_ ?_
         rotate_left
         ·rintro w' ⟨s0, s1, s2, s3⟩
          go_simp
          with_reducible rfl
         rotate_left
         ·simp only [Act.put, List.setIfInBounds_toArray, List.set_cons_zero, List.set_cons_succ, zm, zq]
          rfl
         refine ko (i := 3) (N := some 22) (v := ?_) (a' := ?_) #[true, true, true, true, false, true, false, true, false, false, false, false] rfl rfl (xw HT_.out yj) (fun _ _ _ h => h) (Or.inl ⟨by rfl, ?_⟩) ?_ ?_
         rotate_left
         ·intro w'
          go_simp
          with_reducible rfl
         rotate_left
         ·simp only [Act.put, List.setIfInBounds_toArray, List.set_cons_zero, List.set_cons_succ, zm, zq]
          rfl
         refine jb (i := 4) (N := some 23) (v := ?_) (a' := ?_) #[true, true, true, true, true, true, false, true, false, false, false, false] rfl rfl (kf HT_.out HW_.out yj) (fun _ _ _ h => h) (Or.inl ⟨by rfl, ?_⟩) hHeld ?_ ?_
         rotate_left
         ·rintro w' ⟨s0, s1, s2, s3⟩
          go_simp
          with_reducible rfl
         rotate_left
         ·simp only [Act.put, List.setIfInBounds_toArray, List.set_cons_zero, List.set_cons_succ, zm, zq]
          rfl
         refine jb (i := 6) (N := some 25) (v := ?_) (a' := ?_) #[true, true, true, true, true, true, true, true, false, false, false, false] rfl rfl (kf HT_.out HW_.out yj) (fun _ _ _ h => h) (Or.inl ⟨by rfl, ?_⟩) hHeld ?_ ?_
         rotate_left
         ·rintro w' ⟨s0, s1, s2, s3⟩
          go_simp
          with_reducible rfl
         rotate_left
         ·simp only [Act.put, List.setIfInBounds_toArray, List.set_cons_zero, List.set_cons_succ, zm, zq]
          rfl
         refine ko (i := 8) (N := some 27) (v := ?_) (a' := ?_) #[true, true, true, true, true, true, true, true, true, false, false, false] rfl rfl (xw HT_.out yj) (fun _ _ _ h => h) (Or.inl ⟨by rfl, ?_⟩) ?_ ?_
         rotate_left
         ·intro w'
          go_simp
          with_reducible rfl
         rotate_left
         ·simp only [Act.put, List.setIfInBounds_toArray, List.set_cons_zero, List.set_cons_succ, zm, zq]
          rfl
         refine jb (i := 9) (N := some 28) (v := ?_) (a' := ?_) #[true, true, true, true, true, true, true, true, true, true, false, false] rfl rfl (kf HT_.out HW_.out yj) (fun _ _ _ h => h) (Or.inl ⟨by rfl, ?_⟩) hHeld ?_ ?_
         rotate_left
         ·rintro w' ⟨s0, s1, s2, s3⟩
          go_simp
          with_reducible rfl
         rotate_left
         ·simp only [Act.put, List.setIfInBounds_toArray, List.set_cons_zero, List.set_cons_succ, zm, zq]
          rfl
         refine one_ (i := 10) (N := some 29) #[true, true, true, true, true, true, true, true, true, true, true, false] rfl rfl (je HT_.out yj) (by decide) (fun K hK => ?_)
         refine goes_ Tryz.func95 yj rfl #[.slice A206_0 (xx l0_0 x16_1).length c206_0, .slice A207_0 (xx l1_0 x16_1).length c207_0] (by rfl) rfl rfl yc ?_
         with_reducible refine (xe.calls k1 _ _ (xx l0_0 x16_1) _ _ (xx l1_0 x16_1) true _ ?side1 ?side2 ?side3 ?side4 A18.out).mono ?_
         (case side1 => repeat (first | exact (Kd.ki HR206_0.out HB.out) | (with_reducible refine Kd.kr ?_ _) | (with_reducible refine Kd.ks ?_ _) | (with_reducible refine Kd.ky ?_)))
         (case side2 => exact HC206_0.out)
         (case side3 => repeat (first | exact (Kd.ki HR207_0.out HB.out) | (with_reducible refine Kd.kr ?_ _) | (with_reducible refine Kd.ks ?_ _) | (with_reducible refine Kd.ky ?_)))
         (case side4 => exact HC207_0.out)
         rintro e w21 ⟨rfl, hb⟩
         refine ⟨_, rfl, ?_⟩
         have n0_ := qa.mk (q9 (g := gb204) (o := .cells #[.slice (some ad206) l0_0.length c0_0] 31 (0, 0)) uo hb)
         have n1_ := qa.mk (q9 (g := gb205) (o := .cells #[.slice (some ad207) l1_0.length c1_0] 31 (0, 0)) (by (with_reducible repeat (first | refine qg ?_ _ | refine qi ?_ | refine qf ?_ _)); exact BK205.out) hb)
         have n2_ := qa.mk (qp caq hb)
         clear BK204
         clear BK205
         clear HB
         have BK204 := n0_
         have BK205 := n1_
         have HB := n2_
         clear n0_ n1_ n2_
         (try clear hb)
         (try clear hb2)
         (try clear hk)
         (try clear hi)
         refine hK.out _ _ ⟨(ql BK204.out 0).trans rfl, (ql BK205.out 0).trans rfl, ((HB.out.cell (World.block_lt_of_cell? w _ hw206_0)).trans hw206_0), ((HB.out.cell (World.block_lt_of_cell? w _ hw207_0)).trans hw207_0)⟩ (fun hHeld => ?_)
         clear hK K
         refine norm_ (a' := ?_) ?_ ?_
         rotate_left
         ·show Act.put _ (some 29) _ = _
          simp only [Act.put, List.setIfInBounds_toArray, List.set_cons_zero, List.set_cons_succ, zm, zq]
          rfl
         refine ko (i := 11) (N := some 30) (v := ?_) (a' := ?_) #[true, true, true, true, true, true, true, true, true, true, true, true] rfl rfl (xw HT_.out yj) (fun _ _ _ h => h) (Or.inl ⟨by rfl, ?_⟩) ?_ ?_
         rotate_left
         ·intro w'
          go_simp
          with_reducible rfl
         rotate_left
         ·simp only [Act.put, List.setIfInBounds_toArray, List.set_cons_zero, List.set_cons_succ, zm, zq]
          rfl
         refine done_ (done_of HT_.out yj) ?_
         try go_wp2
         go_roundg k1
         case measure => have := HK1.out; omega
         case rel => exact ⟨(wrap64 (x16_1 + 1)), yf, H', ⟨by have := HK1.out; omega⟩, ⟨by (with_reducible repeat (first | refine qg ?_ _ | refine qi ?_ | refine qf ?_ _)); exact BK204.out⟩, ⟨by (with_reducible repeat (first | refine qg ?_ _ | refine qi ?_ | refine qf ?_ _)); exact BK205.out⟩, ⟨by repeat (first | (with_reducible first | exact HB.out | apply qc | apply qb | apply qd | refine qe ?_ GE204.out | refine qe ?_ GE205.out) | exact HB.out)⟩⟩
        ·replace c19 := Bool.eq_false_iff.mpr c19
         subst c19
         have H1 : (some false) = some r := by rw [if_neg (show ¬ (false = true) by decide)] at H; exact H
         clear H
         have H := H1
         clear H1
         obtain rfl := Option.some.inj H
         try go_wp2
         have n0_ := qa.mk (qi BK204.out)
         have n1_ := qa.mk (qi BK205.out)
         have n2_ := qa.mk (qd HB.out)
         clear BK204
         clear BK205
         clear HB
         have BK204 := n0_
         have BK205 := n1_
         have HB := n2_
         clear n0_ n1_ n2_
         have p206 : 0 ≤ (x16_1 : Int) := of_decide_eq_true cz
         have q206 : x16_1 < (l0_0.length : Int) := of_decide_eq_true cz
         obtain ⟨ad206, A206_0, c206_0, e206, hx206_0, hl206_0, hi206_0⟩ := at_L5 HR0_0.out x16_1 p206 q206
         have hw206_0 := hx206_0
         cases e206
         replace hx206_0 := (HB.out.cell (World.block_lt_of_cell? w _ hx206_0)).trans hx206_0
         have HR206_0 := qa.mk hi206_0
         have HC206_0 := qa.mk hl206_0
         clear hi206_0 hl206_0
         replace p206 := eq_true p206
         replace q206 := eq_true q206
         have p207 : 0 ≤ (x16_1 : Int) := of_decide_eq_true cz
         have q207 : x16_1 < (l1_0.length : Int) := of_decide_eq_true cz
         obtain ⟨ad207, A207_0, c207_0, e207, hx207_0, hl207_0, hi207_0⟩ := at_L5 HR1_0.out x16_1 p207 q207
         have hw207_0 := hx207_0
         cases e207
         replace hx207_0 := (HB.out.cell (World.block_lt_of_cell? w _ hx207_0)).trans hx207_0
         have HR207_0 := qa.mk hi207_0
         have HC207_0 := qa.mk hl207_0
         clear hi207_0 hl207_0
         replace p207 := eq_true p207
         replace q207 := eq_true q207
         refine start_ (n := 12) (S := fun w' => w'.cell? ⟨gb204, 0, none⟩ = some (.slice (some ad206) l0_0.length c0_0) ∧ w'.cell? ⟨gb205, 0, none⟩ = some (.slice (some ad207) l1_0.length c1_0) ∧ w'.cell? (ad206.add (x16_1).toNat) = some (.slice A206_0 (xx l0_0 x16_1).length c206_0) ∧ w'.cell? (ad207.add (x16_1).toNat) = some (.slice A207_0 (xx l1_0 x16_1).length c207_0)) (ds := []) #[false, false, false, false, false, false, false, false, false, false, false, false] yj rfl rfl ⟨(ql BK204.out 0).trans rfl, (ql BK205.out 0).trans rfl, ((HB.out.cell (World.block_lt_of_cell? w _ hw206_0)).trans hw206_0), ((HB.out.cell (World.block_lt_of_cell? w _ hw207_0)).trans hw207_0)⟩ (fun hHeld => ?_); refine with_tabW zt.tab6 zt.bits6 (fun HT_ HW_ => ?_)
         generalize wr.drew = w22 at BK204 BK205 HB HR206_0 HR207_0 hx206_0 hx207_0 hHeld ⊢
         refine ko (i := 0) (N := some 19) (v := ?_) (a' := ?_) #[true, false, false, false, false, false, false, false, false, false, false, false] rfl rfl (xw HT_.out yj) (fun _ _ _ h => h) (Or.inl ⟨by rfl, ?_⟩) ?_ ?_
         rotate_left
         ·intro w'
          go_simp
          with_reducible rfl
         rotate_left
         ·simp only [Act.put, List.setIfInBounds_toArray, List.set_cons_zero, List.set_cons_succ, zm, zq]
          rfl
         refine ko (i := 2) (N := some 21) (v := ?_) (a' := ?_) #[true, false, true, false, false, false, false, false, false, false, false, false] rfl rfl (xw HT_.out yj) (fun _ _ _ h => h) (Or.inl ⟨by rfl, ?_⟩) ?_ ?_
         rotate_left
         ·intro w'
          go_simp
          with_reducible rfl
         rotate_left
         ·simp only [Act.put, List.setIfInBounds_toArray, List.set_cons_zero, List.set_cons_succ, zm, zq]
          rfl
         refine ko (i := 5) (N := some 24) (v := ?_) (a' := ?_) #[true, false, true, false, false, true, false, false, false, false, false, false] rfl rfl (xw HT_.out yj) (fun _ _ _ h => h) (Or.inl ⟨by rfl, ?_⟩) ?_ ?_
         rotate_left
         ·intro w'
          go_simp
          with_reducible rfl
         rotate_left
         ·simp only [Act.put, List.setIfInBounds_toArray, List.set_cons_zero, List.set_cons_succ, zm, zq]
          rfl
         refine ko (i := 7) (N := some 26) (v := ?_) (a' := ?_) #[true, false, true, false, false, true, false, true, false, false, false, false] rfl rfl (xw HT_.out yj) (fun _ _ _ h => h) (Or.inl ⟨by rfl, ?_⟩) ?_ ?_
         rotate_left
         ·intro w'
          go_simp
          with_reducible rfl
         rotate_left
         ·simp only [Act.put, List.setIfInBounds_toArray, List.set_cons_zero, List.set_cons_succ, zm, zq]
          rfl
         refine jb (i := 1) (N := some 20) (v := ?_) (a' := ?_) #[true, true, true, false, false, true, false, true, false, false, false, false] rfl rfl (kf HT_.out HW_.out yj) (fun _ _ _ h => h) (Or.inl ⟨by rfl, ?_⟩) hHeld ?_ ?_
         rotate_left
         ·rintro w' ⟨s0, s1, s2, s3⟩
          go_simp
          with_reducible rfl
         rotate_left
         ·simp only [Act.put, List.setIfInBounds_toArray, List.set_cons_zero, List.set_cons_succ, zm, zq]
          rfl
         refine ko (i := 3) (N := some 22) (v := ?_) (a' := ?_) #[true, true, true, true, false, true, false, true, false, false, false, false] rfl rfl (xw HT_.out yj) (fun _ _ _ h => h) (Or.inl ⟨by rfl, ?_⟩) ?_ ?_
         rotate_left
         ·intro w'
          go_simp
          with_reducible rfl
         rotate_left
         ·simp only [Act.put, List.setIfInBounds_toArray, List.set_cons_zero, List.set_cons_succ, zm, zq]
          rfl
         refine jb (i := 4) (N := some 23) (v := ?_) (a' := ?_) #[true, true, true, true, true, true, false, true, false, false, false, false] rfl rfl (kf HT_.out HW_.out yj) (fun _ _ _ h => h) (Or.inl ⟨by rfl, ?_⟩) hHeld ?_ ?_
         rotate_left
         ·rintro w' ⟨s0, s1, s2, s3⟩
          go_simp
          with_reducible rfl
         rotate_left
         ·simp only [Act.put, List.setIfInBounds_toArray, List.set_cons_zero, List.set_cons_succ, zm, zq]
          rfl
         refine jb (i := 6) (N := some 25) (v := ?_) (a' := ?_) #[true, true, true, true, true, true, true, true, false, false, false, false] rfl rfl (kf HT_.out HW_.out yj) (fun _ _ _ h => h) (Or.inl ⟨by rfl, ?_⟩) hHeld ?_ ?_
         rotate_left
         ·rintro w' ⟨s0, s1, s2, s3⟩
          go_simp
          with_reducible rfl
         rotate_left
         ·simp only [Act.put, List.setIfInBounds_toArray, List.set_cons_zero, List.set_cons_succ, zm, zq]
          rfl
         refine ko (i := 8) (N := some 27) (v := ?_) (a' := ?_) #[true, true, true, true, true, true, true, true, true, false, false, false] rfl rfl (xw HT_.out yj) (fun _ _ _ h => h) (Or.inl ⟨by rfl, ?_⟩) ?_ ?_
         rotate_left
         ·intro w'
          go_simp
          with_reducible rfl
         rotate_left
         ·simp only [Act.put, List.setIfInBounds_toArray, List.set_cons_zero, List.set_cons_succ, zm, zq]
          rfl
         refine jb (i := 9) (N := some 28) (v := ?_) (a' := ?_) #[true, true, true, true, true, true, true, true, true, true, false, false] rfl rfl (kf HT_.out HW_.out yj) (fun _ _ _ h => h) (Or.inl ⟨by rfl, ?_⟩) hHeld ?_ ?_
         rotate_left
         ·rintro w' ⟨s0, s1, s2, s3⟩
          go_simp
          with_reducible rfl
         rotate_left
         ·simp only [Act.put, List.setIfInBounds_toArray, List.set_cons_zero, List.set_cons_succ, zm, zq]
          rfl
         refine one_ (i := 10) (N := some 29) #[true, true, true, true, true, true, true, true, true, true, true, false] rfl rfl (je HT_.out yj) (by decide) (fun K hK => ?_)
         refine goes_ Tryz.func95 yj rfl #[.slice A206_0 (xx l0_0 x16_1).length c206_0, .slice A207_0 (xx l1_0 x16_1).length c207_0] (by rfl) rfl rfl yc ?_
         with_reducible refine (xe.calls k1 _ _ (xx l0_0 x16_1) _ _ (xx l1_0 x16_1) false _ ?side1 ?side2 ?side3 ?side4 A18.out).mono ?_
         (case side1 => repeat (first | exact (Kd.ki HR206_0.out HB.out) | (with_reducible refine Kd.kr ?_ _) | (with_reducible refine Kd.ks ?_ _) | (with_reducible refine Kd.ky ?_)))
         (case side2 => exact HC206_0.out)
         (case side3 => repeat (first | exact (Kd.ki HR207_0.out HB.out) | (with_reducible refine Kd.kr ?_ _) | (with_reducible refine Kd.ks ?_ _) | (with_reducible refine Kd.ky ?_)))
         (case side4 => exact HC207_0.out)
         rintro e w23 ⟨rfl, hb⟩
         refine ⟨_, rfl, ?_⟩
         have n0_ := qa.mk (q9 (g := gb204) (o := .cells #[.slice (some ad206) l0_0.length c0_0] 31 (0, 0)) uo hb)
         have n1_ := qa.mk (q9 (g := gb205) (o := .cells #[.slice (some ad207) l1_0.length c1_0] 31 (0, 0)) (by (with_reducible repeat (first | refine qg ?_ _ | refine qi ?_ | refine qf ?_ _)); exact BK205.out) hb)
         have n2_ := qa.mk (qp caq hb)
         clear BK204
         clear BK205
         clear HB
         have BK204 := n0_
         have BK205 := n1_
         have HB := n2_
         clear n0_ n1_ n2_
         (try clear hb)
         (try clear hb2)
         (try clear hk)
         (try clear hi)
         refine hK.out _ _ ⟨(ql BK204.out 0).trans rfl, (ql BK205.out 0).trans rfl, ((HB.out.cell (World.block_lt_of_cell? w _ hw206_0)).trans hw206_0), ((HB.out.cell (World.block_lt_of_cell? w _ hw207_0)).trans hw207_0)⟩ (fun hHeld => ?_)
         clear hK K
         refine norm_ (a' := ?_) ?_ ?_
         rotate_left
         ·show Act.put _ (some 29) _ = _
          simp only [Act.put, List.setIfInBounds_toArray, List.set_cons_zero, List.set_cons_succ, zm, zq]
          rfl
         refine ko (i := 11) (N := some 30) (v := ?_) (a' := ?_) #[true, true, true, true, true, true, true, true, true, true, true, true] rfl rfl (xw HT_.out yj) (fun _ _ _ h => h) (Or.inl ⟨by rfl, ?_⟩) ?_ ?_
         rotate_left
         ·intro w'
          go_simp
          with_reducible rfl
         rotate_left
         ·simp only [Act.put, List.setIfInBounds_toArray, List.set_cons_zero, List.set_cons_succ, zm, zq]
          rfl
         refine done_ (done_of HT_.out yj) ?_
         try go_wp2
         go_ret
         exact ⟨by first | rfl | (simp [qu, qt] <;> rfl) | (simp [*, qu, qt] <;> rfl), by repeat (first | (with_reducible first | exact HB.out | apply qc | apply qb | apply qd | refine qe ?_ GE204.out | refine qe ?_ GE205.out) | exact HB.out)⟩
       ·rw [if_neg c17] at H
        exact absurd H yt
      ·rw [if_neg c16] at H
       exact absurd H yt
     ·rw [if_neg c15] at H
      exact absurd H yt
    ·rw [if_neg c14] at H
     have c14b0 : decide (x16_1 < (l1_0.length : Int)) = false := decide_eq_false c14
     clear c14
     obtain rfl := Option.some.inj H
     go_wp2
     go_ret
     exact ⟨by first | rfl | (simp [qu, qt] <;> rfl) | (simp [*, qu, qt] <;> rfl), by repeat (first | (with_reducible first | exact HB.out | apply qc | apply qb | apply qd | refine qe ?_ GE204.out | refine qe ?_ GE205.out) | exact HB.out)⟩
end Go.Proofs.YthdoohfdminfgaaGreatDoor.C
end
