/- Words, walks and plain laws that the claim rests on, gathered. -/
import Derived.Test.YthdoohfdminfgaaGreatDoorProg
import Derived.WalkSpells
import Derived.Below
import Derived.Deep.Draws
import Derived.Deep.AppendLies
import Derived.Maps.AppendAt
import Derived.OwnWalk
import Derived.Laws.BytesArg
import Derived.Laws.MakeOwn
import Derived.Laws.OwnMore
import Derived.Deep.OwnRows
import Derived.Tactics
import Derived.Lib.ConvBytes
import Derived.Laws.Slices
import Derived.WalkKit
import Derived.KernelRfl
import Derived.RowKit3
import Derived.Deep.LoopGhost
import Derived.Deep.QuietTactic
import Derived.BigQuiet
import Derived.WideLaws
import Derived.Deep.DeepCutAuto
import Derived.Deep.CutBlock
import Derived.Deep.RegionHeld3
import Derived.Laws.Rows
import Derived.Lib.AppendStr
import Derived.ArgAppend
import Derived.Laws.IdiomCopy
import Derived.OrdersHeld
import Derived.Laws.BitsLemmas
import Derived.RowKit
import Derived.WalkLawsBesides
import Derived.Shelf.Strings.Builder1
import Derived.Shelf.Strings.Builder2
import Derived.Shelf.Strings.OnBuilder
import Derived.Shelf.Small.Bits
import Derived.Shelf.Small.Strs
import Derived.Shelf.Strings.BuilderF
import Derived.Shelf.Strings.BuilderK
import Derived.Shelf.Utf8.RuneCount
import Derived.Shelf.Strings.Builder2Cap
import Derived.Shelf.Strconv.Itoa0
import Derived.Shelf.Strconv.Itoa1
import Derived.Shelf.LaysM
import Derived.Shelf.Strconv.Itoa2
import Derived.Shelf.Strconv.Itoa3
import Derived.Shelf.Strings.Search1
import Derived.Shelf.Strings.Search2
import Derived.Shelf.Strings.Search3
import Derived.Shelf.Strings.Cut
import Derived.Shelf.Strings.Count
import Derived.Shelf.Strings.Shaped
import Derived.Shelf.Sort.Plain
import Derived.Ground.GgsProg
import Derived.Shelf.GgSortFunc.Insertion
import Derived.Shelf.GgSortFunc.Small
import Derived.Shelf.GgSortFunc.InsertionK
import Derived.Shelf.GgSortFunc.SmallK
import Derived.Shelf.GgSortFunc.Tiny
import Derived.Shelf.GgSortFunc.Compose
import Derived.Shelf.GgSortFunc.LotD
import Derived.Shelf.GgSortFunc.Pivot
import Derived.Shelf.GgSortFunc.Partition
import Derived.Shelf.GgSortFunc.Pdq
import Derived.Shelf.GgSortFunc.Whole
import Derived.Shelf.Strings.Prefix
import Derived.Shelf.Strings.Split
import Derived.Shelf.Strings.SplitShaped
import Derived.Shelf.Unicode.Decode
import Derived.Shelf.Strings.RuneCount
import Derived.Shelf.Strings.Explode
import Derived.Shelf.Unicode.DecodeSlow
import Derived.Shelf.Unicode.DecodeAny
import Derived.Shelf.Strings.BuilderCap
import Derived.Shelf.Slices.In.SortNone
import Derived.Shelf.Slices.In.SortNone2
import Derived.Shelf.SlSortFunc.Xorshift
import Derived.Shelf.SlSortFuncK.ComposeK
import Derived.Shelf.SlSortFuncK.SiftDownK
import Derived.Shelf.SlSortFuncK.HeapSortK
import Derived.Shelf.SlSortFuncK.PartialInsertionK
import Derived.Shelf.SlSortFuncK.LotDK
import Derived.Shelf.SlSortFuncK.PivotK
import Derived.Shelf.SlSortFuncK.PartitionK
import Derived.Shelf.SlSortFunc.SiftDown
import Derived.Shelf.SlSortFunc.HeapSort
import Derived.Shelf.SlSortFunc.PartialInsertion
import Derived.Shelf.SlSortFuncK.PdqK
import Derived.Shelf.SlSortFuncK.WholeK
import Derived.Laws.StructEq
import Derived.Test.YthdoohfdminfgaaGreatDoorNK0
import Derived.Test.YthdoohfdminfgaaGreatDoorNK1
import Derived.Test.YthdoohfdminfgaaGreatDoorNK2
import Derived.Test.YthdoohfdminfgaaGreatDoorNK3
import Derived.Test.YthdoohfdminfgaaGreatDoorNK4
import Derived.Test.YthdoohfdminfgaaGreatDoorNK5
import Derived.Test.YthdoohfdminfgaaGreatDoorNK6
import Derived.Test.YthdoohfdminfgaaGreatDoorNK7
import Derived.Test.YthdoohfdminfgaaGreatDoorNKc
namespace Go.Proofs.YthdoohfdminfgaaGreatDoorW.PrintLast
end Go.Proofs.YthdoohfdminfgaaGreatDoorW.PrintLast
namespace Go.Proofs.YthdoohfdminfgaaGreatDoorW.PrintMore
end Go.Proofs.YthdoohfdminfgaaGreatDoorW.PrintMore
namespace Go.Proofs.YthdoohfdminfgaaGreatDoorW.PrintWords
end Go.Proofs.YthdoohfdminfgaaGreatDoorW.PrintWords
section
namespace Go.Proofs.YthdoohfdminfgaaGreatDoor.C
open Go.RowKit Go.Proofs.YthdoohfdminfgaaGreatDoorW.PrintWords Go.Proofs.YthdoohfdminfgaaGreatDoorW.PrintLast Go.Proofs.YthdoohfdminfgaaGreatDoorW.PrintMore
attribute [local go_sem] xa z7 xq xr zx zy xc z8
set_option linter.unusedVariables false
set_option linter.unusedSimpArgs false
def xz.f (k : Nat) (l0_0 : List (List (S40))) (l1_0 : List (List (S40))) : Option (Bool) := if (l0_0.length : Int) = (l1_0.length : Int) then ((zt.f k l0_0 l1_0).bind fun t211 => (some t211)) else (some false)
theorem xz.mono : ∀ a0 a1 k, LeO (xz.f k a0 a1) (xz.f (k + 1) a0 a1) := by
 intro a0 a1 k
 unfold xz.f
 repeat' first
   | (with_reducible exact zt.mono _ _ _)
   | (with_reducible exact LeO.refl _)
   | (with_reducible exact LeO.none _)
   | (with_reducible refine LeO.ite ?_ ?_)
   | (with_reducible refine LeO.bind ?_ (fun _ => ?_))
set_option maxHeartbeats 8000000 in
set_option maxRecDepth 100000 in
theorem xz.calls (k : Nat) (A0_0 : Option Addr) (c0_0 : Nat) (l0_0 : List (List (S40))) (A1_0 : Option Addr) (c1_0 : Nat) (l1_0 : List (List (S40))) (r : Bool) (w : World) (hr0_0 : Kd.C (Kd.slice 40 k40) w A0_0 l0_0.length l0_0) (hc0_0 : l0_0.length ≤ c0_0) (hr1_0 : Kd.C (Kd.slice 40 k40) w A1_0 l1_0.length l1_0) (hc1_0 : l1_0.length ≤ c1_0) (h : xz.f k l0_0 l1_0 = some r) :
  Calls Tryz.prog 30 #[.agg #[.slice A0_0 l0_0.length c0_0], .agg #[.slice A1_0 l1_0.length c1_0]] w fun e w' => e = .returned (.bool r) ∧ Below w.heap.size w w' := by
 have hu31 := Tryz.underlying31
 have HR0_0 := qa.mk hr0_0
 have HC0_0 := qa.mk hc0_0
 clear hr0_0 hc0_0
 have HR1_0 := qa.mk hr1_0
 have HC1_0 := qa.mk hc1_0
 clear hr1_0 hc1_0
 have HB := qa.mk (Below.refl w.heap.size w)
 have H : (if (l0_0.length : Int) = (l1_0.length : Int) then ((zt.f k l0_0 l1_0).bind fun t211 => (some t211)) else (some false)) = some r := h
 clear h
 by_cases c3 : (l0_0.length : Int) = (l1_0.length : Int)
 ·rw [if_pos c3] at H
  have c3b0 : ((l0_0.length : Int) == (l1_0.length : Int)) = true := beq_iff_eq.mpr c3
  have c3b1 : ((l0_0.length : Int) != (l1_0.length : Int)) = false := bne_eq_false_iff_eq.mpr c3
  have c3b2 : (l0_0.length == l1_0.length) = true := by first | simpa using c3 | (simp at c3 ⊢; omega)
  clear c3
  replace H := Option.bind_eq_some_iff.mp H
  obtain ⟨t211, A40, H⟩ := H
  replace H : (some t211) = some r := H
  have A4 := qa.mk A40
  clear A40
  obtain rfl := Option.some.inj H
  go_enter Tryz.func30, Tryz.ntmps30
  go_wp2_with (first | ((with_reducible refine zl (N := 2) rfl ?_); refine zo ?hg (N := 2) ?hd (cs := #[.slice A0_0 l0_0.length c0_0]) (t := 31) ?hr ?_; (case hd => rfl); (case hg => rfl); (case hr => first | (go_simp; done) | (go_simp; rfl)); intro gb209 hg w5 hbox hb; have n0_ := qa.mk (qp cu hb); have n1_ := qa.mk (hbox); have n2_ := qa.mk ((by rw [hg]; exact (qr cu) : w.heap.size ≤ gb209)); have n3_ := qa.mk ((by rw [hg]; exact (qr cu) : w.heap.size ≤ gb209)); clear HB; have HB := n0_; have BK209 := n1_; have GW209 := n2_; have GE209 := n3_; clear n0_ n1_ n2_ n3_; clear hb hbox hg) | ((with_reducible refine zl (N := 3) rfl ?_); refine zo ?hg (N := 3) ?hd (cs := #[.slice A1_0 l1_0.length c1_0]) (t := 31) ?hr ?_; (case hd => rfl); (case hg => rfl); (case hr => first | (go_simp; done) | (go_simp; rfl)); intro gb210 hg w6 hbox hb; have n0_ := qa.mk (q9 (g := gb209) (o := .cells #[.slice A0_0 l0_0.length c0_0] 31 (0, 0)) fo hb); have n1_ := qa.mk (qp uw hb); have n2_ := qa.mk (hbox); have n3_ := qa.mk ((by rw [hg]; exact (qr uw) : w.heap.size ≤ gb210)); have n4_ := qa.mk ((by rw [hg]; exact (qr uw) : w.heap.size ≤ gb210)); have n5_ := qa.mk ((by rw [hg]; exact Nat.ne_of_lt (zz (g := gb209) (o := .cells #[.slice A0_0 l0_0.length c0_0] 31 (0, 0)) fo) : gb209 ≠ gb210)); have n6_ := qa.mk ((by rw [hg]; exact Nat.ne_of_gt (zz (g := gb209) (o := .cells #[.slice A0_0 l0_0.length c0_0] 31 (0, 0)) fo) : gb210 ≠ gb209)); clear BK209; clear HB; have BK209 := n0_; have HB := n1_; have BK210 := n2_; have GW210 := n3_; have GE210 := n4_; have NB209_210 := n5_; have NB210_209 := n6_; clear n0_ n1_ n2_ n3_ n4_ n5_ n6_; clear hb hbox hg; have hnb7 := NB209_210.out; have hnc7 := NB210_209.out; have hcz8_0 : w6.cell? ⟨gb209, 0, none⟩ = some (.slice A0_0 l0_0.length c0_0) := (ql BK209.out 0).trans rfl; have hfz8_0 := qo BK209.out 0; have hcz9_0 : w6.cell? ⟨gb210, 0, none⟩ = some (.slice A1_0 l1_0.length c1_0) := (ql BK210.out 0).trans rfl; have hfz9_0 := qo BK210.out 0) | (go_at_call 63; (with_reducible refine (zt.calls k _ _ l0_0 _ _ l1_0 t211 _ ?side1 ?side2 ?side3 ?side4 A4.out).mono ?_); (case side1 => repeat (first | exact (Kd.ki HR0_0.out HB.out) | (with_reducible refine Kd.kr ?_ _) | (with_reducible refine Kd.ks ?_ _) | (with_reducible refine Kd.ky ?_))); (case side2 => exact HC0_0.out); (case side3 => repeat (first | exact (Kd.ki HR1_0.out HB.out) | (with_reducible refine Kd.kr ?_ _) | (with_reducible refine Kd.ks ?_ _) | (with_reducible refine Kd.ky ?_))); (case side4 => exact HC1_0.out); rintro e w10 ⟨rfl, hb⟩; have n0_ := qa.mk (q9 (g := gb209) (o := .cells #[.slice A0_0 l0_0.length c0_0] 31 (0, 0)) fo hb); have n1_ := qa.mk (q9 (g := gb210) (o := .cells #[.slice A1_0 l1_0.length c1_0] 31 (0, 0)) (by (with_reducible repeat (first | refine qg ?_ _ | refine qi ?_ | refine qf ?_ _)); exact BK210.out) hb); have n2_ := qa.mk (qp (by repeat (first | (with_reducible first | exact HB.out | apply qc | apply qb | apply qd | refine qe ?_ GE209.out | refine qe ?_ GE210.out) | exact HB.out)) hb); clear BK209; clear BK210; clear HB; have BK209 := n0_; have BK210 := n1_; have HB := n2_; clear n0_ n1_ n2_; (try clear hb); (try clear hb2); (try clear hk); (try clear hi)))
  go_ret
  exact ⟨by first | rfl | (simp [qu, qt] <;> rfl) | (simp [*, qu, qt] <;> rfl), by repeat (first | (with_reducible first | exact HB.out | apply qc | apply qb | apply qd | refine qe ?_ GE209.out | refine qe ?_ GE210.out) | exact HB.out)⟩
 ·rw [if_neg c3] at H
  have c3b0 : ((l0_0.length : Int) == (l1_0.length : Int)) = false := beq_eq_false_iff_ne.mpr c3
  have c3b1 : ((l0_0.length : Int) != (l1_0.length : Int)) = true := bne_iff_ne.mpr c3
  have c3b2 : (l0_0.length == l1_0.length) = false := by first | simpa using c3 | (simp at c3 ⊢; omega)
  obtain rfl := Option.some.inj H
  go_enter Tryz.func30, Tryz.ntmps30
  go_wp2_with (first | ((with_reducible refine zl (N := 2) rfl ?_); refine zo ?hg (N := 2) ?hd (cs := #[.slice A0_0 l0_0.length c0_0]) (t := 31) ?hr ?_; (case hd => rfl); (case hg => rfl); (case hr => first | (go_simp; done) | (go_simp; rfl)); intro gb209 hg w11 hbox hb; have n0_ := qa.mk (qp cu hb); have n1_ := qa.mk (hbox); have n2_ := qa.mk ((by rw [hg]; exact (qr cu) : w.heap.size ≤ gb209)); have n3_ := qa.mk ((by rw [hg]; exact (qr cu) : w.heap.size ≤ gb209)); clear HB; have HB := n0_; have BK209 := n1_; have GW209 := n2_; have GE209 := n3_; clear n0_ n1_ n2_ n3_; clear hb hbox hg) | ((with_reducible refine zl (N := 3) rfl ?_); refine zo ?hg (N := 3) ?hd (cs := #[.slice A1_0 l1_0.length c1_0]) (t := 31) ?hr ?_; (case hd => rfl); (case hg => rfl); (case hr => first | (go_simp; done) | (go_simp; rfl)); intro gb210 hg w12 hbox hb; have n0_ := qa.mk (q9 (g := gb209) (o := .cells #[.slice A0_0 l0_0.length c0_0] 31 (0, 0)) fo hb); have n1_ := qa.mk (qp uw hb); have n2_ := qa.mk (hbox); have n3_ := qa.mk ((by rw [hg]; exact (qr uw) : w.heap.size ≤ gb210)); have n4_ := qa.mk ((by rw [hg]; exact (qr uw) : w.heap.size ≤ gb210)); have n5_ := qa.mk ((by rw [hg]; exact Nat.ne_of_lt (zz (g := gb209) (o := .cells #[.slice A0_0 l0_0.length c0_0] 31 (0, 0)) fo) : gb209 ≠ gb210)); have n6_ := qa.mk ((by rw [hg]; exact Nat.ne_of_gt (zz (g := gb209) (o := .cells #[.slice A0_0 l0_0.length c0_0] 31 (0, 0)) fo) : gb210 ≠ gb209)); clear BK209; clear HB; have BK209 := n0_; have HB := n1_; have BK210 := n2_; have GW210 := n3_; have GE210 := n4_; have NB209_210 := n5_; have NB210_209 := n6_; clear n0_ n1_ n2_ n3_ n4_ n5_ n6_; clear hb hbox hg; have hnb13 := NB209_210.out; have hnc13 := NB210_209.out; have hcz14_0 : w12.cell? ⟨gb209, 0, none⟩ = some (.slice A0_0 l0_0.length c0_0) := (ql BK209.out 0).trans rfl; have hfz14_0 := qo BK209.out 0; have hcz15_0 : w12.cell? ⟨gb210, 0, none⟩ = some (.slice A1_0 l1_0.length c1_0) := (ql BK210.out 0).trans rfl; have hfz15_0 := qo BK210.out 0))
  go_ret
  exact ⟨by first | rfl | (simp [qu, qt] <;> rfl) | (simp [*, qu, qt] <;> rfl), by repeat (first | (with_reducible first | exact HB.out | apply qc | apply qb | apply qd | refine qe ?_ GE209.out | refine qe ?_ GE210.out) | exact HB.out)⟩
def xf.f (k : Nat)  : Option (Bool) := (zi.f k (⟨#[67, 78, 61, 87, 101, 98, 32, 83, 101, 114, 118, 101, 114, 44, 79, 61, 69, 120, 97, 109, 112, 108, 101]⟩ : ByteArray)).bind fun bt212 => ((zi.f k (⟨#[67, 78, 61, 119, 101, 98, 32, 32, 115, 101, 114, 118, 101, 114, 44, 79, 61, 69, 88, 65, 77, 80, 76, 69]⟩ : ByteArray)).bind fun bt217 => (if bt212.2 = 0 then (if bt217.2 = 0 then (if (bt212.1.length : Int) = 2 then ((xz.f k bt212.1 bt217.1).bind fun t222 => (if t222 = true then ((xz.f k bt212.1 ([] : List (List (S40)))).bind fun t223 => (some (!t223))) else (some false))) else (some false)) else (some false)) else (some false)))
theorem xf.mono : ∀ k, LeO (xf.f k ) (xf.f (k + 1) ) := by
 intro  k
 unfold xf.f
 repeat' first
   | (with_reducible exact xz.mono _ _ _)
   | (with_reducible exact zi.mono _ _)
   | (with_reducible exact LeO.refl _)
   | (with_reducible exact LeO.none _)
   | (with_reducible refine LeO.ite ?_ ?_)
   | (with_reducible refine LeO.bind ?_ (fun _ => ?_))
set_option maxHeartbeats 8000000 in
set_option maxRecDepth 100000 in
theorem xf.calls (k : Nat)  (r : Bool) (w : World) (hG : LibHeld w) (h : xf.f k  = some r) :
  Calls Tryz.prog 8 #[] w fun e w' => e = .returned (.bool r) ∧ Below w.heap.size w w' := by
 have hu31 := Tryz.underlying31
 have HG := qa.mk hG
 clear hG
 have HB := qa.mk (Below.refl w.heap.size w)
 have H : ((zi.f k (⟨#[67, 78, 61, 87, 101, 98, 32, 83, 101, 114, 118, 101, 114, 44, 79, 61, 69, 120, 97, 109, 112, 108, 101]⟩ : ByteArray)).bind fun bt212 => ((zi.f k (⟨#[67, 78, 61, 119, 101, 98, 32, 32, 115, 101, 114, 118, 101, 114, 44, 79, 61, 69, 88, 65, 77, 80, 76, 69]⟩ : ByteArray)).bind fun bt217 => (if bt212.2 = 0 then (if bt217.2 = 0 then (if (bt212.1.length : Int) = 2 then ((xz.f k bt212.1 bt217.1).bind fun t222 => (if t222 = true then ((xz.f k bt212.1 ([] : List (List (S40)))).bind fun t223 => (some (!t223))) else (some false))) else (some false)) else (some false)) else (some false)))) = some r := h
 clear h
 replace H := Option.bind_eq_some_iff.mp H
 obtain ⟨⟨t212, t215⟩, A10, H⟩ := H
 replace H : ((zi.f k (⟨#[67, 78, 61, 119, 101, 98, 32, 32, 115, 101, 114, 118, 101, 114, 44, 79, 61, 69, 88, 65, 77, 80, 76, 69]⟩ : ByteArray)).bind fun bt217 => (if t215 = 0 then (if bt217.2 = 0 then (if (t212.length : Int) = 2 then ((xz.f k t212 bt217.1).bind fun t222 => (if t222 = true then ((xz.f k t212 ([] : List (List (S40)))).bind fun t223 => (some (!t223))) else (some false))) else (some false)) else (some false)) else (some false))) = some r := H
 have A1 := qa.mk A10
 clear A10
 replace H := Option.bind_eq_some_iff.mp H
 obtain ⟨⟨t217, t220⟩, A20, H⟩ := H
 replace H : (if t215 = 0 then (if t220 = 0 then (if (t212.length : Int) = 2 then ((xz.f k t212 t217).bind fun t222 => (if t222 = true then ((xz.f k t212 ([] : List (List (S40)))).bind fun t223 => (some (!t223))) else (some false))) else (some false)) else (some false)) else (some false)) = some r := H
 have A2 := qa.mk A20
 clear A20
 by_cases c3 : t215 = 0
 ·rw [if_pos c3] at H
  have c3b0 : (t215 == 0) = true := beq_iff_eq.mpr c3
  have c3b1 : (t215 != 0) = false := bne_eq_false_iff_eq.mpr c3
  clear c3
  by_cases c4 : t220 = 0
  ·rw [if_pos c4] at H
   have c4b0 : (t220 == 0) = true := beq_iff_eq.mpr c4
   have c4b1 : (t220 != 0) = false := bne_eq_false_iff_eq.mpr c4
   clear c4
   by_cases c5 : (t212.length : Int) = 2
   ·rw [if_pos c5] at H
    have c5b0 : ((t212.length : Int) == 2) = true := beq_iff_eq.mpr c5
    have c5b1 : ((t212.length : Int) != 2) = false := bne_eq_false_iff_eq.mpr c5
    clear c5
    replace H := Option.bind_eq_some_iff.mp H
    obtain ⟨t222, A60, H⟩ := H
    replace H : (if t222 = true then ((xz.f k t212 ([] : List (List (S40)))).bind fun t223 => (some (!t223))) else (some false)) = some r := H
    have A6 := qa.mk A60
    clear A60
    by_cases c7 : t222 = true
    ·subst c7
     have H1 : ((xz.f k t212 ([] : List (List (S40)))).bind fun t223 => (some (!t223))) = some r := by rw [if_pos rfl] at H; exact H
     clear H
     have H := H1
     clear H1
     replace H := Option.bind_eq_some_iff.mp H
     obtain ⟨t223, A80, H⟩ := H
     replace H : (some (!t223)) = some r := H
     have A8 := qa.mk A80
     clear A80
     obtain rfl := Option.some.inj H
     go_enter Tryz.func8, Tryz.ntmps8
     go_wp2_with (first | ((with_reducible refine zn (f := 25) rfl ?_); refine kd (some 6) rfl rfl Tryz.func25 yj rfl #[.string (⟨#[67, 78, 61, 87, 101, 98, 32, 83, 101, 114, 118, 101, 114, 44, 79, 61, 69, 120, 97, 109, 112, 108, 101]⟩ : ByteArray)] rfl yc ?_; (with_reducible refine (zi.calls k (⟨#[67, 78, 61, 87, 101, 98, 32, 83, 101, 114, 118, 101, 114, 44, 79, 61, 69, 120, 97, 109, 112, 108, 101]⟩ : ByteArray) t212 t215 _ ?side1 A1.out).mono ?_); (case side1 => exact LibHeld.below HG.out cu); rintro e w9 ⟨v213, rfl, ho0, hb⟩; refine ⟨_, rfl, ?_⟩; have n0_ := qa.mk (Kd.S_lower ho0 (qr cu)); have n1_ := qa.mk (qp cu hb); clear HB; have HO214 := n0_; have HB := n1_; clear n0_ n1_; (try clear hb); (try clear hb2); (try clear hk); (try clear hi); (try clear ho0)) | ((with_reducible refine zl (N := 1) rfl ?_); (try (refine kg (by rfl) ?_; dsimp only)); refine zo ?hg (N := 1) ?hd (cs := #[.slice none 0 0]) (t := 31) ?hr ?_; (case hd => rfl); (case hg => rfl); (case hr => first | (go_simp; done) | (go_simp; rfl)); intro gb216 hg w10 hbox hb; have n0_ := qa.mk (Kd.kk uh hb); have n1_ := qa.mk (qp cu hb); have n2_ := qa.mk (hbox); have n3_ := qa.mk ((by rw [hg]; exact (qr cu) : w.heap.size ≤ gb216)); have n4_ := qa.mk ((by rw [hg]; exact (qr cu) : w.heap.size ≤ gb216)); clear HO214; clear HB; have HO214 := n0_; have HB := n1_; have BK216 := n2_; have GW216 := n3_; have GE216 := n4_; clear n0_ n1_ n2_ n3_ n4_; clear hb hbox hg; obtain ⟨Ao11, co11, eo11⟩ := Kd.k8 HO214.out; subst eo11; have hcz12_0 : w10.cell? ⟨gb216, 0, none⟩ = some (.slice none 0 0) := (ql BK216.out 0).trans rfl; have hfz12_0 := qo BK216.out 0) | ((with_reducible refine zn (f := 25) rfl ?_); refine kd (some 10) rfl rfl Tryz.func25 yj rfl #[.string (⟨#[67, 78, 61, 119, 101, 98, 32, 32, 115, 101, 114, 118, 101, 114, 44, 79, 61, 69, 88, 65, 77, 80, 76, 69]⟩ : ByteArray)] rfl yc ?_; (with_reducible refine (zi.calls k (⟨#[67, 78, 61, 119, 101, 98, 32, 32, 115, 101, 114, 118, 101, 114, 44, 79, 61, 69, 88, 65, 77, 80, 76, 69]⟩ : ByteArray) t217 t220 _ ?side1 A2.out).mono ?_); (case side1 => exact LibHeld.below HG.out yh); rintro e w13 ⟨v218, rfl, ho0, hb⟩; refine ⟨_, rfl, ?_⟩; have n0_ := qa.mk (Kd.S_elder' (by (with_reducible repeat (first | apply Kd.xg | apply Kd.xh | apply Kd.xv)); exact (Kd.ku (Kd.S_far (p := ⟨gb216, 0, none⟩) (Kd.k6 HO214.out BK216.out (by decide)) (fun _ hk => hk.2) (.slice Ao11 t212.length co11)) (fun _ h_ => h_.1))) (Kd.S_base ho0) hb); have n1_ := qa.mk (Kd.S_lower (Kd.S_new' ho0 (Kd.S_lt (by (with_reducible repeat (first | apply Kd.xg | apply Kd.xh | apply Kd.xv)); exact (Kd.ku (Kd.S_far (p := ⟨gb216, 0, none⟩) (Kd.k6 HO214.out BK216.out (by decide)) (fun _ hk => hk.2) (.slice Ao11 t212.length co11)) (fun _ h_ => h_.1))))) (qr yh)); have n2_ := qa.mk (q9 (g := gb216) (o := .cells #[.slice Ao11 t212.length co11] 31 (0, 0)) (by (with_reducible repeat (first | refine qg ?_ _ | refine qi ?_ | refine qf ?_ _)); refine zu (cs := #[.slice none 0 0]) ?_ 0 _ rfl; (with_reducible repeat (first | refine qg ?_ _ | refine qi ?_ | refine qf ?_ _)); exact BK216.out) hb); have n3_ := qa.mk (qp yh hb); clear HO214; clear BK216; clear HB; have HO214 := n0_; have HO219 := n1_; have BK216 := n2_; have HB := n3_; clear n0_ n1_ n2_ n3_; (try clear hb); (try clear hb2); (try clear hk); (try clear hi); (try clear ho0)) | ((with_reducible refine zl (N := 3) rfl ?_); (try (refine kg (by rfl) ?_; dsimp only)); refine zo ?hg (N := 3) ?hd (cs := #[.slice none 0 0]) (t := 31) ?hr ?_; (case hd => rfl); (case hg => rfl); (case hr => first | (go_simp; done) | (go_simp; rfl)); intro gb221 hg w14 hbox hb; have n0_ := qa.mk (Kd.kk uh hb); have n1_ := qa.mk (Kd.kk fu hb); have n2_ := qa.mk (q9 (g := gb216) (o := .cells #[.slice Ao11 t212.length co11] 31 (0, 0)) yo hb); have n3_ := qa.mk (qp yh hb); have n4_ := qa.mk (hbox); have n5_ := qa.mk ((by rw [hg]; exact (qr yh) : w.heap.size ≤ gb221)); have n6_ := qa.mk ((by rw [hg]; exact (qr yh) : w.heap.size ≤ gb221)); have n7_ := qa.mk ((by rw [hg]; exact Nat.ne_of_lt (zz (g := gb216) (o := .cells #[.slice Ao11 t212.length co11] 31 (0, 0)) yo) : gb216 ≠ gb221)); have n8_ := qa.mk ((by rw [hg]; exact Nat.ne_of_gt (zz (g := gb216) (o := .cells #[.slice Ao11 t212.length co11] 31 (0, 0)) yo) : gb221 ≠ gb216)); clear HO214; clear HO219; clear BK216; clear HB; have HO214 := n0_; have HO219 := n1_; have BK216 := n2_; have HB := n3_; have BK221 := n4_; have GW221 := n5_; have GE221 := n6_; have NB216_221 := n7_; have NB221_216 := n8_; clear n0_ n1_ n2_ n3_ n4_ n5_ n6_ n7_ n8_; clear hb hbox hg; obtain ⟨Ao15, co15, eo15⟩ := Kd.k8 HO219.out; subst eo15; have hnb16 := NB221_216.out; have hnc16 := NB216_221.out; have hcz17_0 : w14.cell? ⟨gb221, 0, none⟩ = some (.slice none 0 0) := (ql BK221.out 0).trans rfl; have hfz17_0 := qo BK221.out 0; have hcz18_0 : w14.cell? ⟨gb216, 0, none⟩ = some (.slice Ao11 t212.length co11) := (ql BK216.out 0).trans rfl; have hfz18_0 := qo BK216.out 0) | (go_at_call 30; (with_reducible refine (xz.calls k _ _ t212 _ _ t217 true _ ?side1 ?side2 ?side3 ?side4 A6.out).mono ?_); (case side1 => refine (Kd.ja (e := 42) (base := w.heap.size) (ok := fun k_ => (True ∧ some k_ ≠ (.slice Ao15 t217.length co15 : Value).ownBlock)) (n := t212.length) (c := co11) ?_).2.2; exact (by (with_reducible repeat (first | apply Kd.xg | apply Kd.xh | apply Kd.xv)); exact (Kd.ku (Kd.S_far (p := ⟨gb221, 0, none⟩) (Kd.k6 HO214.out BK221.out (by decide)) (fun _ hk => hk.2) (.slice Ao15 t217.length co15)) (fun _ h_ => h_.1)))); (case side2 => exact (Kd.ja HO214.out).2.1); (case side3 => refine (Kd.ja (e := 42) (base := w.heap.size) (ok := fun k_ => (True ∧ some k_ ≠ (.slice Ao11 t212.length co11 : Value).ownBlock)) (n := t217.length) (c := co15) ?_).2.2; exact (by (with_reducible repeat (first | apply Kd.xg | apply Kd.xh | apply Kd.xv)); exact (Kd.ku (Kd.S_far (p := ⟨gb221, 0, none⟩) (Kd.k6 HO219.out BK221.out (by decide)) (fun _ hk => hk.2) (.slice Ao15 t217.length co15)) (fun _ h_ => h_.1)))); (case side4 => exact (Kd.ja HO219.out).2.1); rintro e w19 ⟨rfl, hb⟩; have n0_ := qa.mk (Kd.kk (by (with_reducible repeat (first | apply Kd.xg | apply Kd.xh | apply Kd.xv)); exact (Kd.ku (Kd.S_far (p := ⟨gb221, 0, none⟩) (Kd.k6 HO214.out BK221.out (by decide)) (fun _ hk => hk.2) (.slice Ao15 t217.length co15)) (fun _ h_ => h_.1))) hb); have n1_ := qa.mk (Kd.kk (by (with_reducible repeat (first | apply Kd.xg | apply Kd.xh | apply Kd.xv)); exact (Kd.ku (Kd.S_far (p := ⟨gb221, 0, none⟩) (Kd.k6 HO219.out BK221.out (by decide)) (fun _ hk => hk.2) (.slice Ao15 t217.length co15)) (fun _ h_ => h_.1))) hb); have n2_ := qa.mk (q9 (g := gb216) (o := .cells #[.slice Ao11 t212.length co11] 31 (0, 0)) cai hb); have n3_ := qa.mk (q9 (g := gb221) (o := .cells #[.slice Ao15 t217.length co15] 31 (0, 0)) (by (with_reducible repeat (first | refine qg ?_ _ | refine qi ?_ | refine qf ?_ _)); refine zu (cs := #[.slice none 0 0]) ?_ 0 _ rfl; (with_reducible repeat (first | refine qg ?_ _ | refine qi ?_ | refine qf ?_ _)); exact BK221.out) hb); have n4_ := qa.mk (qp caf hb); clear HO214; clear HO219; clear BK216; clear BK221; clear HB; have HO214 := n0_; have HO219 := n1_; have BK216 := n2_; have BK221 := n3_; have HB := n4_; clear n0_ n1_ n2_ n3_ n4_; (try clear hb); (try clear hb2); (try clear hk); (try clear hi); have hcz20_0 : w19.cell? ⟨gb216, 0, none⟩ = some (.slice Ao11 t212.length co11) := (ql BK216.out 0).trans rfl; have hfz20_0 := qo BK216.out 0) | (go_at_call 30; (refine (xz.calls k _ _ t212 _ _ ([] : List (List (S40))) t223 _ ?side1 ?side2 ?side3 ?side4 A8.out).mono ?_); (case side1 => repeat (first | exact (Kd.ja HO214.out).2.2 | (with_reducible refine Kd.kr ?_ _) | (with_reducible refine Kd.ks ?_ _) | (with_reducible refine Kd.ky ?_))); (case side2 => exact (Kd.ja HO214.out).2.1); (case side3 => exact Kd.C_nil _ _); (case side4 => exact Nat.le_refl _); rintro e w21 ⟨rfl, hb⟩; have n0_ := qa.mk (Kd.kk uh hb); have n1_ := qa.mk (Kd.kk fu hb); have n2_ := qa.mk (q9 (g := gb216) (o := .cells #[.slice Ao11 t212.length co11] 31 (0, 0)) yo hb); have n3_ := qa.mk (q9 (g := gb221) (o := .cells #[.slice Ao15 t217.length co15] 31 (0, 0)) (by (with_reducible repeat (first | refine qg ?_ _ | refine qi ?_ | refine qf ?_ _)); exact BK221.out) hb); have n4_ := qa.mk (qp caf hb); clear HO214; clear HO219; clear BK216; clear BK221; clear HB; have HO214 := n0_; have HO219 := n1_; have BK216 := n2_; have BK221 := n3_; have HB := n4_; clear n0_ n1_ n2_ n3_ n4_; (try clear hb); (try clear hb2); (try clear hk); (try clear hi)))
     go_ret
     exact ⟨by first | rfl | (simp [qu, qt] <;> rfl) | (simp [*, qu, qt] <;> rfl), by repeat (first | (with_reducible first | exact HB.out | apply qc | apply qb | apply qd | refine qe ?_ GE216.out | refine qe ?_ GE221.out) | exact HB.out)⟩
    ·replace c7 := Bool.eq_false_iff.mpr c7
     subst c7
     have H1 : (some false) = some r := by rw [if_neg (show ¬ (false = true) by decide)] at H; exact H
     clear H
     have H := H1
     clear H1
     obtain rfl := Option.some.inj H
     go_enter Tryz.func8, Tryz.ntmps8
     go_wp2_with (first | ((with_reducible refine zn (f := 25) rfl ?_); refine kd (some 6) rfl rfl Tryz.func25 yj rfl #[.string (⟨#[67, 78, 61, 87, 101, 98, 32, 83, 101, 114, 118, 101, 114, 44, 79, 61, 69, 120, 97, 109, 112, 108, 101]⟩ : ByteArray)] rfl yc ?_; (with_reducible refine (zi.calls k (⟨#[67, 78, 61, 87, 101, 98, 32, 83, 101, 114, 118, 101, 114, 44, 79, 61, 69, 120, 97, 109, 112, 108, 101]⟩ : ByteArray) t212 t215 _ ?side1 A1.out).mono ?_); (case side1 => exact LibHeld.below HG.out cu); rintro e w22 ⟨v213, rfl, ho0, hb⟩; refine ⟨_, rfl, ?_⟩; have n0_ := qa.mk (Kd.S_lower ho0 (qr cu)); have n1_ := qa.mk (qp cu hb); clear HB; have HO214 := n0_; have HB := n1_; clear n0_ n1_; (try clear hb); (try clear hb2); (try clear hk); (try clear hi); (try clear ho0)) | ((with_reducible refine zl (N := 1) rfl ?_); (try (refine kg (by rfl) ?_; dsimp only)); refine zo ?hg (N := 1) ?hd (cs := #[.slice none 0 0]) (t := 31) ?hr ?_; (case hd => rfl); (case hg => rfl); (case hr => first | (go_simp; done) | (go_simp; rfl)); intro gb216 hg w23 hbox hb; have n0_ := qa.mk (Kd.kk uh hb); have n1_ := qa.mk (qp cu hb); have n2_ := qa.mk (hbox); have n3_ := qa.mk ((by rw [hg]; exact (qr cu) : w.heap.size ≤ gb216)); have n4_ := qa.mk ((by rw [hg]; exact (qr cu) : w.heap.size ≤ gb216)); clear HO214; clear HB; have HO214 := n0_; have HB := n1_; have BK216 := n2_; have GW216 := n3_; have GE216 := n4_; clear n0_ n1_ n2_ n3_ n4_; clear hb hbox hg; obtain ⟨Ao24, co24, eo24⟩ := Kd.k8 HO214.out; subst eo24; have hcz25_0 : w23.cell? ⟨gb216, 0, none⟩ = some (.slice none 0 0) := (ql BK216.out 0).trans rfl; have hfz25_0 := qo BK216.out 0) | ((with_reducible refine zn (f := 25) rfl ?_); refine kd (some 10) rfl rfl Tryz.func25 yj rfl #[.string (⟨#[67, 78, 61, 119, 101, 98, 32, 32, 115, 101, 114, 118, 101, 114, 44, 79, 61, 69, 88, 65, 77, 80, 76, 69]⟩ : ByteArray)] rfl yc ?_; (with_reducible refine (zi.calls k (⟨#[67, 78, 61, 119, 101, 98, 32, 32, 115, 101, 114, 118, 101, 114, 44, 79, 61, 69, 88, 65, 77, 80, 76, 69]⟩ : ByteArray) t217 t220 _ ?side1 A2.out).mono ?_); (case side1 => exact LibHeld.below HG.out yh); rintro e w26 ⟨v218, rfl, ho0, hb⟩; refine ⟨_, rfl, ?_⟩; have n0_ := qa.mk (Kd.S_elder' (by (with_reducible repeat (first | apply Kd.xg | apply Kd.xh | apply Kd.xv)); exact (Kd.ku (Kd.S_far (p := ⟨gb216, 0, none⟩) (Kd.k6 HO214.out BK216.out (by decide)) (fun _ hk => hk.2) (.slice Ao24 t212.length co24)) (fun _ h_ => h_.1))) (Kd.S_base ho0) hb); have n1_ := qa.mk (Kd.S_lower (Kd.S_new' ho0 (Kd.S_lt (by (with_reducible repeat (first | apply Kd.xg | apply Kd.xh | apply Kd.xv)); exact (Kd.ku (Kd.S_far (p := ⟨gb216, 0, none⟩) (Kd.k6 HO214.out BK216.out (by decide)) (fun _ hk => hk.2) (.slice Ao24 t212.length co24)) (fun _ h_ => h_.1))))) (qr yh)); have n2_ := qa.mk (q9 (g := gb216) (o := .cells #[.slice Ao24 t212.length co24] 31 (0, 0)) (by (with_reducible repeat (first | refine qg ?_ _ | refine qi ?_ | refine qf ?_ _)); refine zu (cs := #[.slice none 0 0]) ?_ 0 _ rfl; (with_reducible repeat (first | refine qg ?_ _ | refine qi ?_ | refine qf ?_ _)); exact BK216.out) hb); have n3_ := qa.mk (qp yh hb); clear HO214; clear BK216; clear HB; have HO214 := n0_; have HO219 := n1_; have BK216 := n2_; have HB := n3_; clear n0_ n1_ n2_ n3_; (try clear hb); (try clear hb2); (try clear hk); (try clear hi); (try clear ho0)) | ((with_reducible refine zl (N := 3) rfl ?_); (try (refine kg (by rfl) ?_; dsimp only)); refine zo ?hg (N := 3) ?hd (cs := #[.slice none 0 0]) (t := 31) ?hr ?_; (case hd => rfl); (case hg => rfl); (case hr => first | (go_simp; done) | (go_simp; rfl)); intro gb221 hg w27 hbox hb; have n0_ := qa.mk (Kd.kk uh hb); have n1_ := qa.mk (Kd.kk fu hb); have n2_ := qa.mk (q9 (g := gb216) (o := .cells #[.slice Ao24 t212.length co24] 31 (0, 0)) yo hb); have n3_ := qa.mk (qp yh hb); have n4_ := qa.mk (hbox); have n5_ := qa.mk ((by rw [hg]; exact (qr yh) : w.heap.size ≤ gb221)); have n6_ := qa.mk ((by rw [hg]; exact (qr yh) : w.heap.size ≤ gb221)); have n7_ := qa.mk ((by rw [hg]; exact Nat.ne_of_lt (zz (g := gb216) (o := .cells #[.slice Ao24 t212.length co24] 31 (0, 0)) yo) : gb216 ≠ gb221)); have n8_ := qa.mk ((by rw [hg]; exact Nat.ne_of_gt (zz (g := gb216) (o := .cells #[.slice Ao24 t212.length co24] 31 (0, 0)) yo) : gb221 ≠ gb216)); clear HO214; clear HO219; clear BK216; clear HB; have HO214 := n0_; have HO219 := n1_; have BK216 := n2_; have HB := n3_; have BK221 := n4_; have GW221 := n5_; have GE221 := n6_; have NB216_221 := n7_; have NB221_216 := n8_; clear n0_ n1_ n2_ n3_ n4_ n5_ n6_ n7_ n8_; clear hb hbox hg; obtain ⟨Ao28, co28, eo28⟩ := Kd.k8 HO219.out; subst eo28; have hnb29 := NB221_216.out; have hnc29 := NB216_221.out; have hcz30_0 : w27.cell? ⟨gb221, 0, none⟩ = some (.slice none 0 0) := (ql BK221.out 0).trans rfl; have hfz30_0 := qo BK221.out 0; have hcz31_0 : w27.cell? ⟨gb216, 0, none⟩ = some (.slice Ao24 t212.length co24) := (ql BK216.out 0).trans rfl; have hfz31_0 := qo BK216.out 0) | (go_at_call 30; (with_reducible refine (xz.calls k _ _ t212 _ _ t217 false _ ?side1 ?side2 ?side3 ?side4 A6.out).mono ?_); (case side1 => refine (Kd.ja (e := 42) (base := w.heap.size) (ok := fun k_ => (True ∧ some k_ ≠ (.slice Ao28 t217.length co28 : Value).ownBlock)) (n := t212.length) (c := co24) ?_).2.2; exact (by (with_reducible repeat (first | apply Kd.xg | apply Kd.xh | apply Kd.xv)); exact (Kd.ku (Kd.S_far (p := ⟨gb221, 0, none⟩) (Kd.k6 HO214.out BK221.out (by decide)) (fun _ hk => hk.2) (.slice Ao28 t217.length co28)) (fun _ h_ => h_.1)))); (case side2 => exact (Kd.ja HO214.out).2.1); (case side3 => refine (Kd.ja (e := 42) (base := w.heap.size) (ok := fun k_ => (True ∧ some k_ ≠ (.slice Ao24 t212.length co24 : Value).ownBlock)) (n := t217.length) (c := co28) ?_).2.2; exact (by (with_reducible repeat (first | apply Kd.xg | apply Kd.xh | apply Kd.xv)); exact (Kd.ku (Kd.S_far (p := ⟨gb221, 0, none⟩) (Kd.k6 HO219.out BK221.out (by decide)) (fun _ hk => hk.2) (.slice Ao28 t217.length co28)) (fun _ h_ => h_.1)))); (case side4 => exact (Kd.ja HO219.out).2.1); rintro e w32 ⟨rfl, hb⟩; have n0_ := qa.mk (Kd.kk (by (with_reducible repeat (first | apply Kd.xg | apply Kd.xh | apply Kd.xv)); exact (Kd.ku (Kd.S_far (p := ⟨gb221, 0, none⟩) (Kd.k6 HO214.out BK221.out (by decide)) (fun _ hk => hk.2) (.slice Ao28 t217.length co28)) (fun _ h_ => h_.1))) hb); have n1_ := qa.mk (Kd.kk (by (with_reducible repeat (first | apply Kd.xg | apply Kd.xh | apply Kd.xv)); exact (Kd.ku (Kd.S_far (p := ⟨gb221, 0, none⟩) (Kd.k6 HO219.out BK221.out (by decide)) (fun _ hk => hk.2) (.slice Ao28 t217.length co28)) (fun _ h_ => h_.1))) hb); have n2_ := qa.mk (q9 (g := gb216) (o := .cells #[.slice Ao24 t212.length co24] 31 (0, 0)) cai hb); have n3_ := qa.mk (q9 (g := gb221) (o := .cells #[.slice Ao28 t217.length co28] 31 (0, 0)) (by (with_reducible repeat (first | refine qg ?_ _ | refine qi ?_ | refine qf ?_ _)); refine zu (cs := #[.slice none 0 0]) ?_ 0 _ rfl; (with_reducible repeat (first | refine qg ?_ _ | refine qi ?_ | refine qf ?_ _)); exact BK221.out) hb); have n4_ := qa.mk (qp caf hb); clear HO214; clear HO219; clear BK216; clear BK221; clear HB; have HO214 := n0_; have HO219 := n1_; have BK216 := n2_; have BK221 := n3_; have HB := n4_; clear n0_ n1_ n2_ n3_ n4_; (try clear hb); (try clear hb2); (try clear hk); (try clear hi)))
     go_ret
     exact ⟨by first | rfl | (simp [qu, qt] <;> rfl) | (simp [*, qu, qt] <;> rfl), by repeat (first | (with_reducible first | exact HB.out | apply qc | apply qb | apply qd | refine qe ?_ GE216.out | refine qe ?_ GE221.out) | exact HB.out)⟩
   ·rw [if_neg c5] at H
    have c5b0 : ((t212.length : Int) == 2) = false := beq_eq_false_iff_ne.mpr c5
    have c5b1 : ((t212.length : Int) != 2) = true := bne_iff_ne.mpr c5
    obtain rfl := Option.some.inj H
    go_enter Tryz.func8, Tryz.ntmps8
    go_wp2_with (first | ((with_reducible refine zn (f := 25) rfl ?_); refine kd (some 6) rfl rfl Tryz.func25 yj rfl #[.string (⟨#[67, 78, 61, 87, 101, 98, 32, 83, 101, 114, 118, 101, 114, 44, 79, 61, 69, 120, 97, 109, 112, 108, 101]⟩ : ByteArray)] rfl yc ?_; (with_reducible refine (zi.calls k (⟨#[67, 78, 61, 87, 101, 98, 32, 83, 101, 114, 118, 101, 114, 44, 79, 61, 69, 120, 97, 109, 112, 108, 101]⟩ : ByteArray) t212 t215 _ ?side1 A1.out).mono ?_); (case side1 => exact LibHeld.below HG.out cu); rintro e w33 ⟨v213, rfl, ho0, hb⟩; refine ⟨_, rfl, ?_⟩; have n0_ := qa.mk (Kd.S_lower ho0 (qr cu)); have n1_ := qa.mk (qp cu hb); clear HB; have HO214 := n0_; have HB := n1_; clear n0_ n1_; (try clear hb); (try clear hb2); (try clear hk); (try clear hi); (try clear ho0)) | ((with_reducible refine zl (N := 1) rfl ?_); (try (refine kg (by rfl) ?_; dsimp only)); refine zo ?hg (N := 1) ?hd (cs := #[.slice none 0 0]) (t := 31) ?hr ?_; (case hd => rfl); (case hg => rfl); (case hr => first | (go_simp; done) | (go_simp; rfl)); intro gb216 hg w34 hbox hb; have n0_ := qa.mk (Kd.kk uh hb); have n1_ := qa.mk (qp cu hb); have n2_ := qa.mk (hbox); have n3_ := qa.mk ((by rw [hg]; exact (qr cu) : w.heap.size ≤ gb216)); have n4_ := qa.mk ((by rw [hg]; exact (qr cu) : w.heap.size ≤ gb216)); clear HO214; clear HB; have HO214 := n0_; have HB := n1_; have BK216 := n2_; have GW216 := n3_; have GE216 := n4_; clear n0_ n1_ n2_ n3_ n4_; clear hb hbox hg; obtain ⟨Ao35, co35, eo35⟩ := Kd.k8 HO214.out; subst eo35; have hcz36_0 : w34.cell? ⟨gb216, 0, none⟩ = some (.slice none 0 0) := (ql BK216.out 0).trans rfl; have hfz36_0 := qo BK216.out 0) | ((with_reducible refine zn (f := 25) rfl ?_); refine kd (some 10) rfl rfl Tryz.func25 yj rfl #[.string (⟨#[67, 78, 61, 119, 101, 98, 32, 32, 115, 101, 114, 118, 101, 114, 44, 79, 61, 69, 88, 65, 77, 80, 76, 69]⟩ : ByteArray)] rfl yc ?_; (with_reducible refine (zi.calls k (⟨#[67, 78, 61, 119, 101, 98, 32, 32, 115, 101, 114, 118, 101, 114, 44, 79, 61, 69, 88, 65, 77, 80, 76, 69]⟩ : ByteArray) t217 t220 _ ?side1 A2.out).mono ?_); (case side1 => exact LibHeld.below HG.out yh); rintro e w37 ⟨v218, rfl, ho0, hb⟩; refine ⟨_, rfl, ?_⟩; have n0_ := qa.mk (Kd.S_elder' (by (with_reducible repeat (first | apply Kd.xg | apply Kd.xh | apply Kd.xv)); exact (Kd.ku (Kd.S_far (p := ⟨gb216, 0, none⟩) (Kd.k6 HO214.out BK216.out (by decide)) (fun _ hk => hk.2) (.slice Ao35 t212.length co35)) (fun _ h_ => h_.1))) (Kd.S_base ho0) hb); have n1_ := qa.mk (Kd.S_lower (Kd.S_new' ho0 (Kd.S_lt (by (with_reducible repeat (first | apply Kd.xg | apply Kd.xh | apply Kd.xv)); exact (Kd.ku (Kd.S_far (p := ⟨gb216, 0, none⟩) (Kd.k6 HO214.out BK216.out (by decide)) (fun _ hk => hk.2) (.slice Ao35 t212.length co35)) (fun _ h_ => h_.1))))) (qr yh)); have n2_ := qa.mk (q9 (g := gb216) (o := .cells #[.slice Ao35 t212.length co35] 31 (0, 0)) (by (with_reducible repeat (first | refine qg ?_ _ | refine qi ?_ | refine qf ?_ _)); refine zu (cs := #[.slice none 0 0]) ?_ 0 _ rfl; (with_reducible repeat (first | refine qg ?_ _ | refine qi ?_ | refine qf ?_ _)); exact BK216.out) hb); have n3_ := qa.mk (qp yh hb); clear HO214; clear BK216; clear HB; have HO214 := n0_; have HO219 := n1_; have BK216 := n2_; have HB := n3_; clear n0_ n1_ n2_ n3_; (try clear hb); (try clear hb2); (try clear hk); (try clear hi); (try clear ho0)) | ((with_reducible refine zl (N := 3) rfl ?_); (try (refine kg (by rfl) ?_; dsimp only)); refine zo ?hg (N := 3) ?hd (cs := #[.slice none 0 0]) (t := 31) ?hr ?_; (case hd => rfl); (case hg => rfl); (case hr => first | (go_simp; done) | (go_simp; rfl)); intro gb221 hg w38 hbox hb; have n0_ := qa.mk (Kd.kk uh hb); have n1_ := qa.mk (Kd.kk fu hb); have n2_ := qa.mk (q9 (g := gb216) (o := .cells #[.slice Ao35 t212.length co35] 31 (0, 0)) yo hb); have n3_ := qa.mk (qp yh hb); have n4_ := qa.mk (hbox); have n5_ := qa.mk ((by rw [hg]; exact (qr yh) : w.heap.size ≤ gb221)); have n6_ := qa.mk ((by rw [hg]; exact (qr yh) : w.heap.size ≤ gb221)); have n7_ := qa.mk ((by rw [hg]; exact Nat.ne_of_lt (zz (g := gb216) (o := .cells #[.slice Ao35 t212.length co35] 31 (0, 0)) yo) : gb216 ≠ gb221)); have n8_ := qa.mk ((by rw [hg]; exact Nat.ne_of_gt (zz (g := gb216) (o := .cells #[.slice Ao35 t212.length co35] 31 (0, 0)) yo) : gb221 ≠ gb216)); clear HO214; clear HO219; clear BK216; clear HB; have HO214 := n0_; have HO219 := n1_; have BK216 := n2_; have HB := n3_; have BK221 := n4_; have GW221 := n5_; have GE221 := n6_; have NB216_221 := n7_; have NB221_216 := n8_; clear n0_ n1_ n2_ n3_ n4_ n5_ n6_ n7_ n8_; clear hb hbox hg; obtain ⟨Ao39, co39, eo39⟩ := Kd.k8 HO219.out; subst eo39; have hnb40 := NB221_216.out; have hnc40 := NB216_221.out; have hcz41_0 : w38.cell? ⟨gb221, 0, none⟩ = some (.slice none 0 0) := (ql BK221.out 0).trans rfl; have hfz41_0 := qo BK221.out 0; have hcz42_0 : w38.cell? ⟨gb216, 0, none⟩ = some (.slice Ao35 t212.length co35) := (ql BK216.out 0).trans rfl; have hfz42_0 := qo BK216.out 0))
    go_ret
    exact ⟨by first | rfl | (simp [qu, qt] <;> rfl) | (simp [*, qu, qt] <;> rfl), by repeat (first | (with_reducible first | exact HB.out | apply qc | apply qb | apply qd | refine qe ?_ GE216.out | refine qe ?_ GE221.out) | exact HB.out)⟩
  ·rw [if_neg c4] at H
   have c4b0 : (t220 == 0) = false := beq_eq_false_iff_ne.mpr c4
   have c4b1 : (t220 != 0) = true := bne_iff_ne.mpr c4
   obtain rfl := Option.some.inj H
   go_enter Tryz.func8, Tryz.ntmps8
   go_wp2_with (first | ((with_reducible refine zn (f := 25) rfl ?_); refine kd (some 6) rfl rfl Tryz.func25 yj rfl #[.string (⟨#[67, 78, 61, 87, 101, 98, 32, 83, 101, 114, 118, 101, 114, 44, 79, 61, 69, 120, 97, 109, 112, 108, 101]⟩ : ByteArray)] rfl yc ?_; (with_reducible refine (zi.calls k (⟨#[67, 78, 61, 87, 101, 98, 32, 83, 101, 114, 118, 101, 114, 44, 79, 61, 69, 120, 97, 109, 112, 108, 101]⟩ : ByteArray) t212 t215 _ ?side1 A1.out).mono ?_); (case side1 => exact LibHeld.below HG.out cu); rintro e w43 ⟨v213, rfl, ho0, hb⟩; refine ⟨_, rfl, ?_⟩; have n0_ := qa.mk (Kd.S_lower ho0 (qr cu)); have n1_ := qa.mk (qp cu hb); clear HB; have HO214 := n0_; have HB := n1_; clear n0_ n1_; (try clear hb); (try clear hb2); (try clear hk); (try clear hi); (try clear ho0)) | ((with_reducible refine zl (N := 1) rfl ?_); (try (refine kg (by rfl) ?_; dsimp only)); refine zo ?hg (N := 1) ?hd (cs := #[.slice none 0 0]) (t := 31) ?hr ?_; (case hd => rfl); (case hg => rfl); (case hr => first | (go_simp; done) | (go_simp; rfl)); intro gb216 hg w44 hbox hb; have n0_ := qa.mk (Kd.kk uh hb); have n1_ := qa.mk (qp cu hb); have n2_ := qa.mk (hbox); have n3_ := qa.mk ((by rw [hg]; exact (qr cu) : w.heap.size ≤ gb216)); have n4_ := qa.mk ((by rw [hg]; exact (qr cu) : w.heap.size ≤ gb216)); clear HO214; clear HB; have HO214 := n0_; have HB := n1_; have BK216 := n2_; have GW216 := n3_; have GE216 := n4_; clear n0_ n1_ n2_ n3_ n4_; clear hb hbox hg; obtain ⟨Ao45, co45, eo45⟩ := Kd.k8 HO214.out; subst eo45; have hcz46_0 : w44.cell? ⟨gb216, 0, none⟩ = some (.slice none 0 0) := (ql BK216.out 0).trans rfl; have hfz46_0 := qo BK216.out 0) | ((with_reducible refine zn (f := 25) rfl ?_); refine kd (some 10) rfl rfl Tryz.func25 yj rfl #[.string (⟨#[67, 78, 61, 119, 101, 98, 32, 32, 115, 101, 114, 118, 101, 114, 44, 79, 61, 69, 88, 65, 77, 80, 76, 69]⟩ : ByteArray)] rfl yc ?_; (with_reducible refine (zi.calls k (⟨#[67, 78, 61, 119, 101, 98, 32, 32, 115, 101, 114, 118, 101, 114, 44, 79, 61, 69, 88, 65, 77, 80, 76, 69]⟩ : ByteArray) t217 t220 _ ?side1 A2.out).mono ?_); (case side1 => exact LibHeld.below HG.out yh); rintro e w47 ⟨v218, rfl, ho0, hb⟩; refine ⟨_, rfl, ?_⟩; have n0_ := qa.mk (Kd.S_elder' (by (with_reducible repeat (first | apply Kd.xg | apply Kd.xh | apply Kd.xv)); exact (Kd.ku (Kd.S_far (p := ⟨gb216, 0, none⟩) (Kd.k6 HO214.out BK216.out (by decide)) (fun _ hk => hk.2) (.slice Ao45 t212.length co45)) (fun _ h_ => h_.1))) (Kd.S_base ho0) hb); have n1_ := qa.mk (Kd.S_lower (Kd.S_new' ho0 (Kd.S_lt (by (with_reducible repeat (first | apply Kd.xg | apply Kd.xh | apply Kd.xv)); exact (Kd.ku (Kd.S_far (p := ⟨gb216, 0, none⟩) (Kd.k6 HO214.out BK216.out (by decide)) (fun _ hk => hk.2) (.slice Ao45 t212.length co45)) (fun _ h_ => h_.1))))) (qr yh)); have n2_ := qa.mk (q9 (g := gb216) (o := .cells #[.slice Ao45 t212.length co45] 31 (0, 0)) (by (with_reducible repeat (first | refine qg ?_ _ | refine qi ?_ | refine qf ?_ _)); refine zu (cs := #[.slice none 0 0]) ?_ 0 _ rfl; (with_reducible repeat (first | refine qg ?_ _ | refine qi ?_ | refine qf ?_ _)); exact BK216.out) hb); have n3_ := qa.mk (qp yh hb); clear HO214; clear BK216; clear HB; have HO214 := n0_; have HO219 := n1_; have BK216 := n2_; have HB := n3_; clear n0_ n1_ n2_ n3_; (try clear hb); (try clear hb2); (try clear hk); (try clear hi); (try clear ho0)) | ((with_reducible refine zl (N := 3) rfl ?_); (try (refine kg (by rfl) ?_; dsimp only)); refine zo ?hg (N := 3) ?hd (cs := #[.slice none 0 0]) (t := 31) ?hr ?_; (case hd => rfl); (case hg => rfl); (case hr => first | (go_simp; done) | (go_simp; rfl)); intro gb221 hg w48 hbox hb; have n0_ := qa.mk (Kd.kk uh hb); have n1_ := qa.mk (Kd.kk fu hb); have n2_ := qa.mk (q9 (g := gb216) (o := .cells #[.slice Ao45 t212.length co45] 31 (0, 0)) yo hb); have n3_ := qa.mk (qp yh hb); have n4_ := qa.mk (hbox); have n5_ := qa.mk ((by rw [hg]; exact (qr yh) : w.heap.size ≤ gb221)); have n6_ := qa.mk ((by rw [hg]; exact (qr yh) : w.heap.size ≤ gb221)); have n7_ := qa.mk ((by rw [hg]; exact Nat.ne_of_lt (zz (g := gb216) (o := .cells #[.slice Ao45 t212.length co45] 31 (0, 0)) yo) : gb216 ≠ gb221)); have n8_ := qa.mk ((by rw [hg]; exact Nat.ne_of_gt (zz (g := gb216) (o := .cells #[.slice Ao45 t212.length co45] 31 (0, 0)) yo) : gb221 ≠ gb216)); clear HO214; clear HO219; clear BK216; clear HB; have HO214 := n0_; have HO219 := n1_; have BK216 := n2_; have HB := n3_; have BK221 := n4_; have GW221 := n5_; have GE221 := n6_; have NB216_221 := n7_; have NB221_216 := n8_; clear n0_ n1_ n2_ n3_ n4_ n5_ n6_ n7_ n8_; clear hb hbox hg; obtain ⟨Ao49, co49, eo49⟩ := Kd.k8 HO219.out; subst eo49; have hnb50 := NB221_216.out; have hnc50 := NB216_221.out; have hcz51_0 : w48.cell? ⟨gb221, 0, none⟩ = some (.slice none 0 0) := (ql BK221.out 0).trans rfl; have hfz51_0 := qo BK221.out 0))
   go_ret
   exact ⟨by first | rfl | (simp [qu, qt] <;> rfl) | (simp [*, qu, qt] <;> rfl), by repeat (first | (with_reducible first | exact HB.out | apply qc | apply qb | apply qd | refine qe ?_ GE216.out | refine qe ?_ GE221.out) | exact HB.out)⟩
 ·rw [if_neg c3] at H
  have c3b0 : (t215 == 0) = false := beq_eq_false_iff_ne.mpr c3
  have c3b1 : (t215 != 0) = true := bne_iff_ne.mpr c3
  obtain rfl := Option.some.inj H
  go_enter Tryz.func8, Tryz.ntmps8
  go_wp2_with (first | ((with_reducible refine zn (f := 25) rfl ?_); refine kd (some 6) rfl rfl Tryz.func25 yj rfl #[.string (⟨#[67, 78, 61, 87, 101, 98, 32, 83, 101, 114, 118, 101, 114, 44, 79, 61, 69, 120, 97, 109, 112, 108, 101]⟩ : ByteArray)] rfl yc ?_; (with_reducible refine (zi.calls k (⟨#[67, 78, 61, 87, 101, 98, 32, 83, 101, 114, 118, 101, 114, 44, 79, 61, 69, 120, 97, 109, 112, 108, 101]⟩ : ByteArray) t212 t215 _ ?side1 A1.out).mono ?_); (case side1 => exact LibHeld.below HG.out cu); rintro e w52 ⟨v213, rfl, ho0, hb⟩; refine ⟨_, rfl, ?_⟩; have n0_ := qa.mk (Kd.S_lower ho0 (qr cu)); have n1_ := qa.mk (qp cu hb); clear HB; have HO214 := n0_; have HB := n1_; clear n0_ n1_; (try clear hb); (try clear hb2); (try clear hk); (try clear hi); (try clear ho0)) | ((with_reducible refine zl (N := 1) rfl ?_); (try (refine kg (by rfl) ?_; dsimp only)); refine zo ?hg (N := 1) ?hd (cs := #[.slice none 0 0]) (t := 31) ?hr ?_; (case hd => rfl); (case hg => rfl); (case hr => first | (go_simp; done) | (go_simp; rfl)); intro gb216 hg w53 hbox hb; have n0_ := qa.mk (Kd.kk uh hb); have n1_ := qa.mk (qp cu hb); have n2_ := qa.mk (hbox); have n3_ := qa.mk ((by rw [hg]; exact (qr cu) : w.heap.size ≤ gb216)); have n4_ := qa.mk ((by rw [hg]; exact (qr cu) : w.heap.size ≤ gb216)); clear HO214; clear HB; have HO214 := n0_; have HB := n1_; have BK216 := n2_; have GW216 := n3_; have GE216 := n4_; clear n0_ n1_ n2_ n3_ n4_; clear hb hbox hg; obtain ⟨Ao54, co54, eo54⟩ := Kd.k8 HO214.out; subst eo54; have hcz55_0 : w53.cell? ⟨gb216, 0, none⟩ = some (.slice none 0 0) := (ql BK216.out 0).trans rfl; have hfz55_0 := qo BK216.out 0) | ((with_reducible refine zn (f := 25) rfl ?_); refine kd (some 10) rfl rfl Tryz.func25 yj rfl #[.string (⟨#[67, 78, 61, 119, 101, 98, 32, 32, 115, 101, 114, 118, 101, 114, 44, 79, 61, 69, 88, 65, 77, 80, 76, 69]⟩ : ByteArray)] rfl yc ?_; (with_reducible refine (zi.calls k (⟨#[67, 78, 61, 119, 101, 98, 32, 32, 115, 101, 114, 118, 101, 114, 44, 79, 61, 69, 88, 65, 77, 80, 76, 69]⟩ : ByteArray) t217 t220 _ ?side1 A2.out).mono ?_); (case side1 => exact LibHeld.below HG.out yh); rintro e w56 ⟨v218, rfl, ho0, hb⟩; refine ⟨_, rfl, ?_⟩; have n0_ := qa.mk (Kd.S_elder' (by (with_reducible repeat (first | apply Kd.xg | apply Kd.xh | apply Kd.xv)); exact (Kd.ku (Kd.S_far (p := ⟨gb216, 0, none⟩) (Kd.k6 HO214.out BK216.out (by decide)) (fun _ hk => hk.2) (.slice Ao54 t212.length co54)) (fun _ h_ => h_.1))) (Kd.S_base ho0) hb); have n1_ := qa.mk (Kd.S_lower (Kd.S_new' ho0 (Kd.S_lt (by (with_reducible repeat (first | apply Kd.xg | apply Kd.xh | apply Kd.xv)); exact (Kd.ku (Kd.S_far (p := ⟨gb216, 0, none⟩) (Kd.k6 HO214.out BK216.out (by decide)) (fun _ hk => hk.2) (.slice Ao54 t212.length co54)) (fun _ h_ => h_.1))))) (qr yh)); have n2_ := qa.mk (q9 (g := gb216) (o := .cells #[.slice Ao54 t212.length co54] 31 (0, 0)) (by (with_reducible repeat (first | refine qg ?_ _ | refine qi ?_ | refine qf ?_ _)); refine zu (cs := #[.slice none 0 0]) ?_ 0 _ rfl; (with_reducible repeat (first | refine qg ?_ _ | refine qi ?_ | refine qf ?_ _)); exact BK216.out) hb); have n3_ := qa.mk (qp yh hb); clear HO214; clear BK216; clear HB; have HO214 := n0_; have HO219 := n1_; have BK216 := n2_; have HB := n3_; clear n0_ n1_ n2_ n3_; (try clear hb); (try clear hb2); (try clear hk); (try clear hi); (try clear ho0)) | ((with_reducible refine zl (N := 3) rfl ?_); (try (refine kg (by rfl) ?_; dsimp only)); refine zo ?hg (N := 3) ?hd (cs := #[.slice none 0 0]) (t := 31) ?hr ?_; (case hd => rfl); (case hg => rfl); (case hr => first | (go_simp; done) | (go_simp; rfl)); intro gb221 hg w57 hbox hb; have n0_ := qa.mk (Kd.kk uh hb); have n1_ := qa.mk (Kd.kk fu hb); have n2_ := qa.mk (q9 (g := gb216) (o := .cells #[.slice Ao54 t212.length co54] 31 (0, 0)) yo hb); have n3_ := qa.mk (qp yh hb); have n4_ := qa.mk (hbox); have n5_ := qa.mk ((by rw [hg]; exact (qr yh) : w.heap.size ≤ gb221)); have n6_ := qa.mk ((by rw [hg]; exact (qr yh) : w.heap.size ≤ gb221)); have n7_ := qa.mk ((by rw [hg]; exact Nat.ne_of_lt (zz (g := gb216) (o := .cells #[.slice Ao54 t212.length co54] 31 (0, 0)) yo) : gb216 ≠ gb221)); have n8_ := qa.mk ((by rw [hg]; exact Nat.ne_of_gt (zz (g := gb216) (o := .cells #[.slice Ao54 t212.length co54] 31 (0, 0)) yo) : gb221 ≠ gb216)); clear HO214; clear HO219; clear BK216; clear HB; have HO214 := n0_; have HO219 := n1_; have BK216 := n2_; have HB := n3_; have BK221 := n4_; have GW221 := n5_; have GE221 := n6_; have NB216_221 := n7_; have NB221_216 := n8_; clear n0_ n1_ n2_ n3_ n4_ n5_ n6_ n7_ n8_; clear hb hbox hg; obtain ⟨Ao58, co58, eo58⟩ := Kd.k8 HO219.out; subst eo58; have hnb59 := NB221_216.out; have hnc59 := NB216_221.out; have hcz60_0 : w57.cell? ⟨gb221, 0, none⟩ = some (.slice none 0 0) := (ql BK221.out 0).trans rfl; have hfz60_0 := qo BK221.out 0))
  go_ret
  exact ⟨by first | rfl | (simp [qu, qt] <;> rfl) | (simp [*, qu, qt] <;> rfl), by repeat (first | (with_reducible first | exact HB.out | apply qc | apply qb | apply qd | refine qe ?_ GE216.out | refine qe ?_ GE221.out) | exact HB.out)⟩
def xf.Pure : Prop := ∃ k, xf.f k  = some true
theorem xf.walk (P : xf.Pure)  (w : World) (hG : LibHeld w)  :
  Calls Tryz.prog 8 #[] w fun e w' => e = .returned (.bool true) ∧ Below w.heap.size w w' := by
 obtain ⟨k, h⟩ := P
 refine (xf.calls k  true w hG h).mono ?_
 rintro e w' ⟨rfl, hd⟩
 exact ⟨rfl, hd⟩
end Go.Proofs.YthdoohfdminfgaaGreatDoor.C
end
