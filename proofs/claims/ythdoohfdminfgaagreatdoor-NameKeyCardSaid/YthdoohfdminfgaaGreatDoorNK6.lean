/- Words, walks and plain laws that the claim rests on, gathered. -/
import Derived.Test.YthdoohfdminfgaaGreatDoorProg
import Derived.WalkSpells
import Derived.Below
import Derived.Deep.Draws
import Derived.Deep.AppendLies
import Derived.Maps.AppendAt
import Derived.OwnWalk
import Derived.Laws.BytesArg
import Derived.Laws.MakeOwn
import Derived.Laws.OwnMore
import Derived.Deep.OwnRows
import Derived.Tactics
import Derived.Lib.ConvBytes
import Derived.Laws.Slices
import Derived.WalkKit
import Derived.KernelRfl
import Derived.RowKit3
import Derived.Deep.LoopGhost
import Derived.Deep.QuietTactic
import Derived.BigQuiet
import Derived.WideLaws
import Derived.Deep.DeepCutAuto
import Derived.Deep.CutBlock
import Derived.Deep.RegionHeld3
import Derived.Laws.Rows
import Derived.Lib.AppendStr
import Derived.ArgAppend
import Derived.Laws.IdiomCopy
import Derived.OrdersHeld
import Derived.Laws.BitsLemmas
import Derived.RowKit
import Derived.WalkLawsBesides
import Derived.Shelf.Strings.Builder1
import Derived.Shelf.Strings.Builder2
import Derived.Shelf.Strings.OnBuilder
import Derived.Shelf.Small.Bits
import Derived.Shelf.Small.Strs
import Derived.Shelf.Strings.BuilderF
import Derived.Shelf.Strings.BuilderK
import Derived.Shelf.Utf8.RuneCount
import Derived.Shelf.Strings.Builder2Cap
import Derived.Shelf.Strconv.Itoa0
import Derived.Shelf.Strconv.Itoa1
import Derived.Shelf.LaysM
import Derived.Shelf.Strconv.Itoa2
import Derived.Shelf.Strconv.Itoa3
import Derived.Shelf.Strings.Search1
import Derived.Shelf.Strings.Search2
import Derived.Shelf.Strings.Search3
import Derived.Shelf.Strings.Cut
import Derived.Shelf.Strings.Count
import Derived.Shelf.Strings.Shaped
import Derived.Shelf.Sort.Plain
import Derived.Ground.GgsProg
import Derived.Shelf.GgSortFunc.Insertion
import Derived.Shelf.GgSortFunc.Small
import Derived.Shelf.GgSortFunc.InsertionK
import Derived.Shelf.GgSortFunc.SmallK
import Derived.Shelf.GgSortFunc.Tiny
import Derived.Shelf.GgSortFunc.Compose
import Derived.Shelf.GgSortFunc.LotD
import Derived.Shelf.GgSortFunc.Pivot
import Derived.Shelf.GgSortFunc.Partition
import Derived.Shelf.GgSortFunc.Pdq
import Derived.Shelf.GgSortFunc.Whole
import Derived.Shelf.Strings.Prefix
import Derived.Shelf.Strings.Split
import Derived.Shelf.Strings.SplitShaped
import Derived.Shelf.Unicode.Decode
import Derived.Shelf.Strings.RuneCount
import Derived.Shelf.Strings.Explode
import Derived.Shelf.Unicode.DecodeSlow
import Derived.Shelf.Unicode.DecodeAny
import Derived.Shelf.Strings.BuilderCap
import Derived.Shelf.Slices.In.SortNone
import Derived.Shelf.Slices.In.SortNone2
import Derived.Shelf.SlSortFunc.Xorshift
import Derived.Shelf.SlSortFuncK.ComposeK
import Derived.Shelf.SlSortFuncK.SiftDownK
import Derived.Shelf.SlSortFuncK.HeapSortK
import Derived.Shelf.SlSortFuncK.PartialInsertionK
import Derived.Shelf.SlSortFuncK.LotDK
import Derived.Shelf.SlSortFuncK.PivotK
import Derived.Shelf.SlSortFuncK.PartitionK
import Derived.Shelf.SlSortFunc.SiftDown
import Derived.Shelf.SlSortFunc.HeapSort
import Derived.Shelf.SlSortFunc.PartialInsertion
import Derived.Shelf.SlSortFuncK.PdqK
import Derived.Shelf.SlSortFuncK.WholeK
import Derived.Laws.StructEq
import Derived.Test.YthdoohfdminfgaaGreatDoorNK0
import Derived.Test.YthdoohfdminfgaaGreatDoorNK1
import Derived.Test.YthdoohfdminfgaaGreatDoorNK2
import Derived.Test.YthdoohfdminfgaaGreatDoorNK3
import Derived.Test.YthdoohfdminfgaaGreatDoorNK4
import Derived.Test.YthdoohfdminfgaaGreatDoorNK5
import Derived.Test.YthdoohfdminfgaaGreatDoorNKc
namespace Go.Proofs.YthdoohfdminfgaaGreatDoorW.PrintLast
end Go.Proofs.YthdoohfdminfgaaGreatDoorW.PrintLast
namespace Go.Proofs.YthdoohfdminfgaaGreatDoorW.PrintMore
end Go.Proofs.YthdoohfdminfgaaGreatDoorW.PrintMore
namespace Go.Proofs.YthdoohfdminfgaaGreatDoorW.PrintWords
end Go.Proofs.YthdoohfdminfgaaGreatDoorW.PrintWords
section
namespace Go.Proofs.YthdoohfdminfgaaGreatDoor.C
open Go.RowKit Go.Proofs.YthdoohfdminfgaaGreatDoorW.PrintWords Go.Proofs.YthdoohfdminfgaaGreatDoorW.PrintLast Go.Proofs.YthdoohfdminfgaaGreatDoorW.PrintMore
attribute [local go_sem] xa z7 xq xr zx zy xc z8
set_option linter.unusedVariables false
set_option linter.unusedSimpArgs false
mutual
def zi.l0 : Nat → List ByteArray → Int → Int → List (List (S40)) → Option ((List (List (S40))) × Int)
 | 0, _, _, _, _ => none
 | k + 1, x17, x18, x19, x158000 => if x19 < x18 then (if 0 ≤ x19 then (if x19 < (x17.length : Int) then ((strings_Split.f (rdOf ByteArray.empty x17 x19) (⟨#[43]⟩ : ByteArray)).bind fun t162 => (zi.l1 k ([] : List (S40)) x17 x18 x19 t162 (t162.length : Int) 0 x158000)) else (none)) else (none)) else ((z6.f k x158000).bind fun t177 => (if t177 = 0 then (some (x158000, 0)) else (some (([] : List (List (S40))), t177))))
def zi.l1 : Nat → List (S40) → List ByteArray → Int → Int → List ByteArray → Int → Int → List (List (S40)) → Option ((List (List (S40))) × Int)
 | 0, _, _, _, _, _, _, _, _ => none
 | k + 1, x7, x17, x18, x19, x24, x25, x26, x158000 => if x26 < x25 then (if 0 ≤ x26 then (if x26 < (x24.length : Int) then ((qq.f k (rdOf ByteArray.empty x24 x26)).bind fun bt169 => (if bt169.2.2.2 = true then (if x7.length < 3518437208883 then (zi.l1 k (x7 ++ [(⟨bt169.1, bt169.2.1, bt169.2.2.1⟩ : S40)]) x17 x18 x19 x24 x25 (wrap64 (x26 + 1)) x158000) else (none)) else (some (([] : List (List (S40))), 32)))) else (none)) else (none)) else (if x158000.length < 5864062014805 then (zi.l0 k x17 x18 (wrap64 (x19 + 1)) (x158000 ++ [x7])) else (none))
end
def zi.f (k : Nat) (a0 : ByteArray) : Option ((List (List (S40))) × Int) := if a0.toList = ([] : List UInt8) then (some (([] : List (List (S40))), 0)) else ((strings_Split.f a0 (⟨#[44]⟩ : ByteArray)).bind fun t158 => (zi.l0 k t158 (t158.length : Int) 0 ([] : List (List (S40)))))
theorem zi.xi : ∀ k, (∀ y0 y1 y2 y3, LeO (zi.l0 k y0 y1 y2 y3) (zi.l0 (k + 1) y0 y1 y2 y3)) ∧ (∀ y0 y1 y2 y3 y4 y5 y6 y7, LeO (zi.l1 k y0 y1 y2 y3 y4 y5 y6 y7) (zi.l1 (k + 1) y0 y1 y2 y3 y4 y5 y6 y7))
 | 0 => ⟨fun _ _ _ _ r h => by simp [zi.l0] at h, fun _ _ _ _ _ _ _ _ r h => by simp [zi.l1] at h⟩
 | k + 1 => by
  obtain ⟨ih0, ih1⟩ := zi.xi k
  refine ⟨?_, ?_⟩
  ·intro y0 y1 y2 y3
   unfold zi.l0
   repeat' first
   | (with_reducible exact ih0 _ _ _ _)
   | (with_reducible exact ih1 _ _ _ _ _ _ _ _)
   | (with_reducible exact z6.mono _ _)
   | (with_reducible exact qq.mono _ _)
   | (with_reducible exact LeO.refl _)
   | (with_reducible exact LeO.none _)
   | (with_reducible refine LeO.ite ?_ ?_)
   | (with_reducible refine LeO.bind ?_ (fun _ => ?_))
  ·intro y0 y1 y2 y3 y4 y5 y6 y7
   unfold zi.l1
   repeat' first
   | (with_reducible exact ih0 _ _ _ _)
   | (with_reducible exact ih1 _ _ _ _ _ _ _ _)
   | (with_reducible exact z6.mono _ _)
   | (with_reducible exact qq.mono _ _)
   | (with_reducible exact LeO.refl _)
   | (with_reducible exact LeO.none _)
   | (with_reducible refine LeO.ite ?_ ?_)
   | (with_reducible refine LeO.bind ?_ (fun _ => ?_))
theorem zi.mono : ∀ a0 k, LeO (zi.f k a0) (zi.f (k + 1) a0) := by
 intro a0 k
 obtain ⟨ih0, ih1⟩ := zi.xi k
 unfold zi.f
 repeat' first
   | (with_reducible exact ih0 _ _ _ _)
   | (with_reducible exact ih1 _ _ _ _ _ _ _ _)
   | (with_reducible exact z6.mono _ _)
   | (with_reducible exact qq.mono _ _)
   | (with_reducible exact LeO.refl _)
   | (with_reducible exact LeO.none _)
   | (with_reducible refine LeO.ite ?_ ?_)
   | (with_reducible refine LeO.bind ?_ (fun _ => ?_))
set_option maxHeartbeats 8000000 in
set_option maxRecDepth 100000 in
theorem zi.calls (k : Nat) (a0 : ByteArray) (r1 : List (List (S40))) (r2 : Int) (w : World) (hG : LibHeld w) (h : zi.f k a0 = some (r1, r2)) :
  Calls Tryz.prog 25 #[.string a0] w fun e w' => ∃ v0_ : Value, e = .returned (.tuple #[.agg #[v0_], .int .i64 r2]) ∧ Kd.S (Kd.slice 40 k40) 42 w' w.heap.size (fun _ => True) v0_ r1 ∧ Below w.heap.size w w' := by
 have hu31 := Tryz.underlying31
 have hu40 := Tryz.underlying40
 have HG := qa.mk hG
 clear hG
 have HB := qa.mk (Below.refl w.heap.size w)
 have H : (if a0.toList = ([] : List UInt8) then (some (([] : List (List (S40))), 0)) else ((strings_Split.f a0 (⟨#[44]⟩ : ByteArray)).bind fun t158 => (zi.l0 k t158 (t158.length : Int) 0 ([] : List (List (S40)))))) = some (r1, r2) := h
 clear h
 by_cases c2 : a0.toList = ([] : List UInt8)
 ·rw [if_pos c2] at H
  have c2b0 : (a0.toList == ([] : List UInt8)) = true := beq_iff_eq.mpr c2
  have c2b1 : (a0.toList != ([] : List UInt8)) = false := bne_eq_false_iff_eq.mpr c2
  clear c2
  simp only [Option.some.injEq, Prod.mk.injEq] at H
  obtain ⟨rfl, rfl⟩ := H
  go_enter Tryz.func25, Tryz.ntmps25
  go_wp2_with (first | ((with_reducible refine zl (N := 2) rfl ?_); refine zo ?hg (N := 2) ?hd (cs := #[.slice none 0 0]) (t := 31) ?hr ?_; (case hd => rfl); (case hg => rfl); (case hr => first | (go_simp; done) | (go_simp; rfl)); intro gb156 hg w3 hbox hb; have n0_ := qa.mk (qp cu hb); have n1_ := qa.mk (hbox); have n2_ := qa.mk ((by rw [hg]; exact (qr cu) : w.heap.size ≤ gb156)); have n3_ := qa.mk ((by rw [hg]; exact (qr cu) : w.heap.size ≤ gb156)); clear HB; have HB := n0_; have BK156 := n1_; have GW156 := n2_; have GE156 := n3_; clear n0_ n1_ n2_ n3_; clear hb hbox hg) | ((with_reducible refine zl (N := 4) rfl ?_); refine zo ?hg (N := 4) ?hd (cs := #[.slice none 0 0]) (t := 31) ?hr ?_; (case hd => rfl); (case hg => rfl); (case hr => first | (go_simp; done) | (go_simp; rfl)); intro gb157 hg w4 hbox hb; have n0_ := qa.mk (q9 (g := gb156) (o := .cells #[.slice none 0 0] 31 (0, 0)) yn hb); have n1_ := qa.mk (qp uz hb); have n2_ := qa.mk (hbox); have n3_ := qa.mk ((by rw [hg]; exact (qr uz) : w.heap.size ≤ gb157)); have n4_ := qa.mk ((by rw [hg]; exact (qr uz) : w.heap.size ≤ gb157)); have n5_ := qa.mk ((by rw [hg]; exact Nat.ne_of_lt (zz (g := gb156) (o := .cells #[.slice none 0 0] 31 (0, 0)) yn) : gb156 ≠ gb157)); have n6_ := qa.mk ((by rw [hg]; exact Nat.ne_of_gt (zz (g := gb156) (o := .cells #[.slice none 0 0] 31 (0, 0)) yn) : gb157 ≠ gb156)); clear BK156; clear HB; have BK156 := n0_; have HB := n1_; have BK157 := n2_; have GW157 := n3_; have GE157 := n4_; have NB156_157 := n5_; have NB157_156 := n6_; clear n0_ n1_ n2_ n3_ n4_ n5_ n6_; clear hb hbox hg; have hnb5 := NB157_156.out; have hnc5 := NB156_157.out; have hcz6_0 : w4.cell? ⟨gb157, 0, none⟩ = some (.slice none 0 0) := (ql BK157.out 0).trans rfl; have hfz6_0 := qo BK157.out 0; have hcz7_0 : w4.cell? ⟨gb156, 0, none⟩ = some (.slice none 0 0) := (ql BK156.out 0).trans rfl; have hfz7_0 := qo BK156.out 0))
  refine bodyPost_ret (results_ct rfl _ _ gb156 31 #[.slice none 0 0] (0, 0) _ rfl (by (with_reducible repeat (first | refine qg ?_ _ | refine qi ?_ | refine qf ?_ _)); refine zu (cs := #[.slice none 0 0]) ?_ 0 _ rfl; (with_reducible repeat (first | refine qg ?_ _ | refine qi ?_ | refine qf ?_ _)); exact BK156.out) Tryz.underlying31 rfl yj) rfl ?_
  exact ⟨_, by first | rfl | (simp [qu, qt] <;> rfl) | (simp [*, qu, qt] <;> rfl), by first | exact Kd.S_nil _ _ _ _ _ | exact Kd.N_nil _ _ _ _ _ | exact Kd.V_nil _ _ _ _ _ | exact Kd.Q_nil _ _ _ _ _ | exact Kd.R_nil _ _ _ _ _, by repeat (first | (with_reducible first | exact HB.out | apply qc | apply qb | apply qd | refine qe ?_ GE156.out | refine qe ?_ GE157.out) | exact HB.out)⟩
 ·rw [if_neg c2] at H
  have c2b0 : (a0.toList == ([] : List UInt8)) = false := beq_eq_false_iff_ne.mpr c2
  have c2b1 : (a0.toList != ([] : List UInt8)) = true := bne_iff_ne.mpr c2
  replace H := Option.bind_eq_some_iff.mp H
  obtain ⟨t158, A80, H⟩ := H
  replace H : (zi.l0 k t158 (t158.length : Int) 0 ([] : List (List (S40)))) = some (r1, r2) := H
  have A8 := qa.mk A80
  clear A80
  have H' := qa.mk H
  clear H
  go_enter Tryz.func25, Tryz.ntmps25
  go_wp2_with (first | ((with_reducible refine zl (N := 2) rfl ?_); refine zo ?hg (N := 2) ?hd (cs := #[.slice none 0 0]) (t := 31) ?hr ?_; (case hd => rfl); (case hg => rfl); (case hr => first | (go_simp; done) | (go_simp; rfl)); intro gb156 hg w9 hbox hb; have n0_ := qa.mk (qp cu hb); have n1_ := qa.mk (hbox); have n2_ := qa.mk ((by rw [hg]; exact (qr cu) : w.heap.size ≤ gb156)); have n3_ := qa.mk ((by rw [hg]; exact (qr cu) : w.heap.size ≤ gb156)); clear HB; have HB := n0_; have BK156 := n1_; have GW156 := n2_; have GE156 := n3_; clear n0_ n1_ n2_ n3_; clear hb hbox hg) | ((with_reducible refine zl (N := 4) rfl ?_); refine zo ?hg (N := 4) ?hd (cs := #[.slice none 0 0]) (t := 31) ?hr ?_; (case hd => rfl); (case hg => rfl); (case hr => first | (go_simp; done) | (go_simp; rfl)); intro gb157 hg w10 hbox hb; have n0_ := qa.mk (q9 (g := gb156) (o := .cells #[.slice none 0 0] 31 (0, 0)) yn hb); have n1_ := qa.mk (qp uz hb); have n2_ := qa.mk (hbox); have n3_ := qa.mk ((by rw [hg]; exact (qr uz) : w.heap.size ≤ gb157)); have n4_ := qa.mk ((by rw [hg]; exact (qr uz) : w.heap.size ≤ gb157)); have n5_ := qa.mk ((by rw [hg]; exact Nat.ne_of_lt (zz (g := gb156) (o := .cells #[.slice none 0 0] 31 (0, 0)) yn) : gb156 ≠ gb157)); have n6_ := qa.mk ((by rw [hg]; exact Nat.ne_of_gt (zz (g := gb156) (o := .cells #[.slice none 0 0] 31 (0, 0)) yn) : gb157 ≠ gb156)); clear BK156; clear HB; have BK156 := n0_; have HB := n1_; have BK157 := n2_; have GW157 := n3_; have GE157 := n4_; have NB156_157 := n5_; have NB157_156 := n6_; clear n0_ n1_ n2_ n3_ n4_ n5_ n6_; clear hb hbox hg) | ((with_reducible refine zn (f := 56) rfl ?_); refine kd (some 17) rfl rfl Tryz.func56 yj rfl #[.string a0, .string (⟨#[44]⟩ : ByteArray)] rfl yc ?_; (with_reducible refine (strings_Split.calls a0 (⟨#[44]⟩ : ByteArray) t158 _ ?side1 A8.out).mono ?_); (case side1 => exact LibHeld.below HG.out yl); rintro e w11 ⟨v159, rfl, ho0, hb⟩; refine ⟨_, rfl, ?_⟩; have n0_ := qa.mk (Kd.R_lower ho0 (qr yl)); have n1_ := qa.mk (q9 (g := gb156) (o := .cells #[.slice none 0 0] 31 (0, 0)) yn hb); have n2_ := qa.mk (q9 (g := gb157) (o := .cells #[.slice none 0 0] 31 (0, 0)) yw hb); have n3_ := qa.mk (qp yl hb); clear BK156; clear BK157; clear HB; have HO160 := n0_; have BK156 := n1_; have BK157 := n2_; have HB := n3_; clear n0_ n1_ n2_ n3_; (try clear hb); (try clear hb2); (try clear hk); (try clear hi); (try clear ho0); obtain ⟨Ao12, co12, eo12⟩ := Kd.kj HO160.out; subst eo12))
  go_loopg [19] k (fun kq v19 w' => ∃ (x19_1 : Int) (x158000_1 : List (List (S40))) (u158000 : Value), v19 = .int .i64 x19_1 ∧ qa (zi.l0 kq t158 (t158.length : Int) x19_1 x158000_1 = some (r1, r2)) ∧ qa (kq ≤ k) ∧ qa (Kd.R Kd.string 9 w' w.heap.size (fun _ => True) (.slice Ao12 t158.length co12) t158) ∧ qa (Kd.S (Kd.slice 40 k40) 42 w' w.heap.size (fun _ => True) u158000 x158000_1) ∧ qa (w'.heap[gb156]? = some (.cells #[(.slice none 0 0)] 31 (0, 0))) ∧ qa (w'.heap[gb157]? = some (.cells #[u158000] 31 (0, 0))) ∧ qa (Below w.heap.size w w'))
  case atStart => exact ⟨(0), (([] : List (List (S40)))), (.slice none 0 0), yf, H', ⟨Nat.le_refl _⟩, ⟨by (with_reducible repeat (first | apply Kd.zh | apply Kd.zg | apply Kd.zr)); exact HO160.out⟩, ⟨by first | exact Kd.S_nil _ _ _ _ _ | exact Kd.N_nil _ _ _ _ _ | exact Kd.V_nil _ _ _ _ _ | exact Kd.Q_nil _ _ _ _ _ | exact Kd.R_nil _ _ _ _ _⟩, ⟨by (with_reducible repeat (first | refine qg ?_ _ | refine qi ?_ | refine qf ?_ _)); exact BK156.out⟩, ⟨by (with_reducible repeat (first | refine qg ?_ _ | refine qi ?_ | refine qf ?_ _)); exact BK157.out⟩, ⟨by repeat (first | (with_reducible first | exact HB.out | apply qc | apply qb | apply qd | refine qe ?_ GE156.out | refine qe ?_ GE157.out) | exact HB.out)⟩⟩
  case round =>
   clear H'
   (try clear c2); (try clear c2b0); (try clear c2b1); (try clear p2); (try clear c5); (try clear hcz6_0); (try clear hcz7_0); (try clear hfz6_0); try clear hfz7_0
   obtain ⟨x19_1, x158000_1, u158000, rfl, HA, HK1, HO_17, HO_158000, BK156, BK157, HB⟩ := hrel
   cases gk with
   | zero => exact absurd HA.out (by simp [zi.l0])
   | succ k1 =>
    have H := HA.out
    clear HA
    simp only [zi.l0] at H
    by_cases c13 : x19_1 < (t158.length : Int)
    ·rw [if_pos c13] at H
     have c13b0 : decide (x19_1 < (t158.length : Int)) = true := decide_eq_true c13
     clear c13
     by_cases c14 : 0 ≤ x19_1
     ·rw [if_pos c14] at H
      have c14b0 : decide (0 ≤ x19_1) = true := decide_eq_true c14
      clear c14
      by_cases c15 : x19_1 < (t158.length : Int)
      ·rw [if_pos c15] at H
       have c15b0 : decide (x19_1 < (t158.length : Int)) = true := decide_eq_true c15
       clear c15
       replace H := Option.bind_eq_some_iff.mp H
       obtain ⟨t162, A160, H⟩ := H
       replace H : (zi.l1 k1 ([] : List (S40)) t158 (t158.length : Int) x19_1 t162 (t162.length : Int) 0 x158000_1) = some (r1, r2) := H
       have A16 := qa.mk A160
       clear A160
       have H' := qa.mk H
       clear H
       have p161 : 0 ≤ (x19_1 : Int) := of_decide_eq_true cz
       have q161 : x19_1 < (t158.length : Int) := of_decide_eq_true cz
       obtain ⟨ad161, e161, hx161_0⟩ := Kd.at_string (Kd.xp HO_17.out).2.2 x19_1 p161 q161
       cases e161
       replace p161 := eq_true p161
       replace q161 := eq_true q161
       go_wp2_with (first | ((with_reducible refine zn (f := 56) rfl ?_); refine kd (some 24) rfl rfl Tryz.func56 yj rfl #[.string (rdOf ByteArray.empty t158 x19_1), .string (⟨#[43]⟩ : ByteArray)] rfl yc ?_; (with_reducible refine (strings_Split.calls (rdOf ByteArray.empty t158 x19_1) (⟨#[43]⟩ : ByteArray) t162 _ ?side1 A16.out).mono ?_); (case side1 => exact LibHeld.below HG.out yl); rintro e w17 ⟨v163, rfl, ho0, hb⟩; refine ⟨_, rfl, ?_⟩; have n0_ := qa.mk (Kd.R_elder' ul (Kd.R_base ho0) hb); have n1_ := qa.mk (Kd.kk uk hb); have n2_ := qa.mk (Kd.R_lower (Kd.R_new' ho0 (Kd.R_lt ul)) (qr yl)); have n3_ := qa.mk (q9 (g := gb156) (o := .cells #[.slice none 0 0] 31 (0, 0)) yn hb); have n4_ := qa.mk (q9 (g := gb157) (o := .cells #[u158000] 31 (0, 0)) yw hb); have n5_ := qa.mk (qp yl hb); clear HO_17; clear HO_158000; clear BK156; clear BK157; clear HB; have HO_17 := n0_; have HO_158000 := n1_; have HO164 := n2_; have BK156 := n3_; have BK157 := n4_; have HB := n5_; clear n0_ n1_ n2_ n3_ n4_ n5_; (try clear hb); (try clear hb2); (try clear hk); (try clear hi); (try clear ho0); obtain ⟨Ao18, co18, eo18⟩ := Kd.kj HO164.out; subst eo18))
       go_loopg [7, 26] k1 (fun kq v7 v26 w' => ∃ (x7_2 : List (S40)) (x26_2 : Int), v26 = .int .i64 x26_2 ∧ qa (zi.l1 kq x7_2 t158 (t158.length : Int) x19_1 t162 (t162.length : Int) x26_2 x158000_1 = some (r1, r2)) ∧ qa (kq ≤ k1) ∧ qa (Kd.R k40 40 w' w.heap.size (fun _ => True) v7 x7_2) ∧ qa (Kd.R Kd.string 9 w' w.heap.size (fun k_ => some k_ ≠ ((.slice Ao18 t162.length co18) : Value).ownBlock) (.slice (some ad161) t158.length co12) t158) ∧ qa (Kd.R Kd.string 9 w' w.heap.size (fun k_ => some k_ ≠ ((.slice (some ad161) t158.length co12) : Value).ownBlock) (.slice Ao18 t162.length co18) t162) ∧ qa (Kd.S (Kd.slice 40 k40) 42 w' w.heap.size (fun k_ => some k_ ≠ (v7 : Value).ownBlock) u158000 x158000_1) ∧ qa (w'.heap[gb156]? = some (.cells #[(.slice none 0 0)] 31 (0, 0))) ∧ qa (w'.heap[gb157]? = some (.cells #[u158000] 31 (0, 0))) ∧ qa (Below w.heap.size w w'))
       case atStart => exact ⟨(([] : List (S40))), (0), yf, H', ⟨Nat.le_refl _⟩, ⟨by first | exact Kd.R_nil _ _ _ _ _ | exact Kd.N_nil _ _ _ _ _ | exact Kd.V_nil _ _ _ _ _ | exact Kd.Q_nil _ _ _ _ _ | exact Kd.S_nil _ _ _ _ _⟩, ⟨by (with_reducible repeat (first | apply Kd.zh | apply Kd.zg | apply Kd.zr)); exact Kd.kn HO_17.out (fun _ hk => hk.2)⟩, ⟨by (with_reducible repeat (first | apply Kd.zh | apply Kd.zg | apply Kd.zr)); exact Kd.kn HO164.out (fun _ hk => hk.2)⟩, ⟨by (with_reducible repeat (first | apply Kd.xg | apply Kd.xh | apply Kd.xv)); exact Kd.ku HO_158000.out (fun _ hk => (by simp [Value.ownBlock]))⟩, ⟨by (with_reducible repeat (first | refine qg ?_ _ | refine qi ?_ | refine qf ?_ _)); exact BK156.out⟩, ⟨by (with_reducible repeat (first | refine qg ?_ _ | refine qi ?_ | refine qf ?_ _)); exact BK157.out⟩, ⟨by repeat (first | (with_reducible first | exact HB.out | apply qc | apply qb | apply qd | refine qe ?_ GE156.out | refine qe ?_ GE157.out) | exact HB.out)⟩⟩
       case round =>
        clear H'
        (try clear c1); (try clear p1); (try clear q1); (try clear hx1); (try clear c2); (try clear c2b0); (try clear c2b1); (try clear p2); (try clear c5); (try clear c13); (try clear c13b0); try clear c14
        (try clear c14b0); (try clear c15); (try clear c15b0); (try clear p16); (try clear q16); (try clear hx16); (try clear hcz6_0); (try clear hcz7_0); (try clear hfz6_0); (try clear hfz7_0); try clear hx161_0
        (try clear p161); (try clear p2); try clear q161
        obtain ⟨x7_2, x26_2, rfl, HA, HK2, HO_7, HO_17, HO_24, HO_158000, BK156, BK157, HB⟩ := hrel
        cases gk with
        | zero => exact absurd HA.out (by simp [zi.l1])
        | succ k2 =>
         have H := HA.out
         clear HA
         simp only [zi.l1] at H
         by_cases c19 : x26_2 < (t162.length : Int)
         ·rw [if_pos c19] at H
          have c19b0 : decide (x26_2 < (t162.length : Int)) = true := decide_eq_true c19
          clear c19
          by_cases c20 : 0 ≤ x26_2
          ·rw [if_pos c20] at H
           have c20b0 : decide (0 ≤ x26_2) = true := decide_eq_true c20
           clear c20
           by_cases c21 : x26_2 < (t162.length : Int)
           ·rw [if_pos c21] at H
            have c21b0 : decide (x26_2 < (t162.length : Int)) = true := decide_eq_true c21
            clear c21
            replace H := Option.bind_eq_some_iff.mp H
            obtain ⟨⟨t169, t170, t171, t172⟩, A220, H⟩ := H
            replace H : (if t172 = true then (if x7_2.length < 3518437208883 then (zi.l1 k2 (x7_2 ++ [(⟨t169, t170, t171⟩ : S40)]) t158 (t158.length : Int) x19_1 t162 (t162.length : Int) (wrap64 (x26_2 + 1)) x158000_1) else (none)) else (some (([] : List (List (S40))), 32))) = some (r1, r2) := H
            have A22 := qa.mk A220
            clear A220
            by_cases c23 : t172 = true
            ·subst c23
             have H1 : (if x7_2.length < 3518437208883 then (zi.l1 k2 (x7_2 ++ [(⟨t169, t170, t171⟩ : S40)]) t158 (t158.length : Int) x19_1 t162 (t162.length : Int) (wrap64 (x26_2 + 1)) x158000_1) else (none)) = some (r1, r2) := by rw [if_pos rfl] at H; exact H
             clear H
             have H := H1
             clear H1
             by_cases c24 : x7_2.length < 3518437208883
             ·rw [if_pos c24] at H
              have LMc24 := qa.mk c24
              clear c24
              obtain ⟨y174, hy174⟩ : ∃ y_ : List (S40), y_ = (x7_2 ++ [(⟨t169, t170, t171⟩ : S40)]) := ⟨_, rfl⟩
              replace H : (zi.l1 k2 y174 t158 (t158.length : Int) x19_1 t162 (t162.length : Int) (wrap64 (x26_2 + 1)) x158000_1) = some (r1, r2) := by first | (rw [hy174]; with_reducible exact H) | (have H2_ := (Option.bind_some _ _).symm.trans H; rw [hy174]; with_reducible exact H2_) | (have H2_ := (Option.bind_some _ _).symm.trans H; with_reducible exact H2_) | with_reducible exact H | (rw [hy174]; exact H) | exact H
              have Ny174 := qa.mk hy174
              clear hy174
              have H' := qa.mk H
              clear H
              have p168 : 0 ≤ (x26_2 : Int) := of_decide_eq_true cz
              have q168 : x26_2 < (t162.length : Int) := of_decide_eq_true cz
              obtain ⟨ad168, e168, hx168_0⟩ := Kd.at_string (Kd.xp HO_24.out).2.2 x26_2 p168 q168
              cases e168
              replace p168 := eq_true p168
              replace q168 := eq_true q168
              go_wp2_with (first | ((with_reducible refine zn (f := 57) rfl ?_); refine kd (some 32) rfl rfl Tryz.func57 yj rfl #[.string (rdOf ByteArray.empty t162 x26_2)] rfl yc ?_; (with_reducible refine (qq.calls k2 (rdOf ByteArray.empty t162 x26_2) t169 t170 t171 true _ ?side1 A22.out).mono ?_); (case side1 => exact LibHeld.below HG.out yl); rintro e w25 ⟨rfl, hb⟩; refine ⟨_, rfl, ?_⟩; have n0_ := qa.mk (Kd.kt cah hb); have n1_ := qa.mk (Kd.kt ul hb); have n2_ := qa.mk (Kd.kt cac hb); have n3_ := qa.mk (Kd.kk uk hb); have n4_ := qa.mk (q9 (g := gb156) (o := .cells #[.slice none 0 0] 31 (0, 0)) yn hb); have n5_ := qa.mk (q9 (g := gb157) (o := .cells #[u158000] 31 (0, 0)) yw hb); have n6_ := qa.mk (qp yl hb); clear HO_7; clear HO_17; clear HO_24; clear HO_158000; clear BK156; clear BK157; clear HB; have HO_7 := n0_; have HO_17 := n1_; have HO_24 := n2_; have HO_158000 := n3_; have BK156 := n4_; have BK157 := n5_; have HB := n6_; clear n0_ n1_ n2_ n3_ n4_ n5_ n6_; (try clear hb); (try clear hb2); (try clear hk); (try clear hi)) | ((with_reducible refine zl (N := 10) rfl ?_); refine zo ?hg (N := 10) ?hd (cs := #[.string (⟨#[]⟩ : ByteArray), .int .i64 0, .string (⟨#[]⟩ : ByteArray)]) (t := 40) ?hr ?_; (case hd => rfl); (case hg => rfl); (case hr => first | (go_simp; done) | (go_simp; rfl)); intro gb173 hg w26 hbox hb; have n0_ := qa.mk (Kd.kt (Kd.R_elderB cah gb173 (Nat.le_of_eq hg.symm)) hb); have n1_ := qa.mk (Kd.kt ul hb); have n2_ := qa.mk (Kd.kt cac hb); have n3_ := qa.mk (Kd.kk (Kd.S_elderB uk gb173 (Nat.le_of_eq hg.symm)) hb); have n4_ := qa.mk (q9 (g := gb156) (o := .cells #[.slice none 0 0] 31 (0, 0)) yn hb); have n5_ := qa.mk (q9 (g := gb157) (o := .cells #[u158000] 31 (0, 0)) yw hb); have n6_ := qa.mk (qp yl hb); have n7_ := qa.mk (hbox); have n8_ := qa.mk ((by rw [hg]; exact (qr yl) : w.heap.size ≤ gb173)); have n9_ := qa.mk ((by rw [hg]; exact (qr yl) : w.heap.size ≤ gb173)); have n10_ := qa.mk ((by rw [hg]; exact Nat.ne_of_lt (zz (g := gb156) (o := .cells #[.slice none 0 0] 31 (0, 0)) yn) : gb156 ≠ gb173)); have n11_ := qa.mk ((by rw [hg]; exact Nat.ne_of_gt (zz (g := gb156) (o := .cells #[.slice none 0 0] 31 (0, 0)) yn) : gb173 ≠ gb156)); have n12_ := qa.mk ((by rw [hg]; exact Nat.ne_of_lt (zz (g := gb157) (o := .cells #[u158000] 31 (0, 0)) yw) : gb157 ≠ gb173)); have n13_ := qa.mk ((by rw [hg]; exact Nat.ne_of_gt (zz (g := gb157) (o := .cells #[u158000] 31 (0, 0)) yw) : gb173 ≠ gb157)); clear HO_7; clear HO_17; clear HO_24; clear HO_158000; clear BK156; clear BK157; clear HB; have HO_7 := n0_; have HO_17 := n1_; have HO_24 := n2_; have HO_158000 := n3_; have BK156 := n4_; have BK157 := n5_; have HB := n6_; have BK173 := n7_; have GW173 := n8_; have GE173 := n9_; have NB156_173 := n10_; have NB173_156 := n11_; have NB157_173 := n12_; have NB173_157 := n13_; clear n0_ n1_ n2_ n3_ n4_ n5_ n6_ n7_ n8_ n9_ n10_ n11_ n12_ n13_; clear hb hbox hg; have hnb27 := NB173_156.out; have hnc27 := NB156_173.out; have hnb28 := NB173_157.out; have hnc28 := NB157_173.out; have hcz29_0 : w26.cell? ⟨gb173, 0, none⟩ = some (.string (⟨#[]⟩ : ByteArray)) := (ql BK173.out 0).trans rfl; have hcz29_1 : w26.cell? ⟨gb173, 1, none⟩ = some (.int .i64 0) := (ql BK173.out 1).trans rfl; have hcz29_2 : w26.cell? ⟨gb173, 2, none⟩ = some (.string (⟨#[]⟩ : ByteArray)) := (ql BK173.out 2).trans rfl; have hfz29_0 := qo BK173.out 0; have hfz29_1 := qo BK173.out 1; have hfz29_2 := qo BK173.out 2) | ((with_reducible refine xo (b := .append) (xs := #[.tmp 38, .tmp 40]) rfl ?_); at_builtin; refine Kd.kv k40 (w0 := w) w.heap.size rfl (.tmp 38) (.tmp 40) 42 40 (.agg #[(.string ⟨#[]⟩), (.int .i64 0), (.string ⟨#[]⟩)]) 40 rfl Tryz.underlying42 info40 rfl (by decide) yg u7 x7_2 (⟨t169, t170, t171⟩ : S40) [.string t169, .int .i64 t170, .string t171] (fun k_ => k_ ≠ gb173) (fun _ => False) rfl (by first | (go_simp; done) | (go_simp; rfl)) ?aP (fun _ hk => hk.elim) ?aF ?aO ?aB ?aS ?aL ?_; (case aP => exact k9 _ _ _ (⟨t169, t170, t171⟩ : S40)); (case aB => exact cal); (case aF => exact (fun k_ hk => Kd.freshB (g := gb173) (o := .cells #[.string t169, .int .i64 t170, .string t171] 40 (0, 0)) (by (with_reducible repeat (first | refine qg ?_ _ | refine qi ?_ | refine qf ?_ _)); refine zu (cs := #[.string t169, .int .i64 t170, .string (⟨#[]⟩ : ByteArray)]) ?_ 2 _ rfl; (with_reducible repeat (first | refine qg ?_ _ | refine qi ?_ | refine qf ?_ _)); refine zu (cs := #[.string t169, .int .i64 0, .string (⟨#[]⟩ : ByteArray)]) ?_ 1 _ rfl; (with_reducible repeat (first | refine qg ?_ _ | refine qi ?_ | refine qf ?_ _)); refine zu (cs := #[.string (⟨#[]⟩ : ByteArray), .int .i64 0, .string (⟨#[]⟩ : ByteArray)]) ?_ 0 _ rfl; (with_reducible repeat (first | refine qg ?_ _ | refine qi ?_ | refine qf ?_ _)); exact BK173.out) k_ hk)); (case aO => exact (by (with_reducible repeat (first | apply Kd.zh | apply Kd.zg | apply Kd.zr)); exact Kd.kn (Kd.R_far (p := ⟨gb173, 2, none⟩) (Kd.R_far (p := ⟨gb173, 1, none⟩) (Kd.R_far (p := ⟨gb173, 0, none⟩) (Kd.kn HO_7.out (fun k_ hk => (⟨hk, hk.2⟩ : _ ∧ k_ ≠ gb173))) (fun _ hk => hk.2) (.string t169)) (fun _ hk => hk.2) (.int .i64 t170)) (fun _ hk => hk.2) (.string t171)) (fun _ hk => hk.1.2))); (case aS => exact (qr cal)); (case aL => have := LMc24.out; omega); intro v175 w30 ho hb hg hat; rw [← Ny174.out] at ho; have n0_ := qa.mk (Kd.R_over' (by (with_reducible repeat (first | apply Kd.zh | apply Kd.zg | apply Kd.zr)); exact (Kd.kn (Kd.R_far (p := ⟨gb173, 2, none⟩) (Kd.R_far (p := ⟨gb173, 1, none⟩) (Kd.R_far (p := ⟨gb173, 0, none⟩) (Kd.R_types HO_17.out BK173.out (by decide)) (fun _ hk => hk.2) (.string t169)) (fun _ hk => hk.2) (.int .i64 t170)) (fun _ hk => hk.2) (.string t171)) (fun _ h_ => h_.1))) (Kd.R_typed (by (with_reducible repeat (first | apply Kd.zh | apply Kd.zg | apply Kd.zr)); exact (Kd.kn (Kd.R_far (p := ⟨gb173, 2, none⟩) (Kd.R_far (p := ⟨gb173, 1, none⟩) (Kd.R_far (p := ⟨gb173, 0, none⟩) (Kd.kn HO_7.out (fun k_ hk => (⟨hk, hk.2⟩ : _ ∧ k_ ≠ gb173))) (fun _ hk => hk.2) (.string t169)) (fun _ hk => hk.2) (.int .i64 t170)) (fun _ hk => hk.2) (.string t171)) (fun _ h_ => h_.1)))) (by decide) hg); have n1_ := qa.mk (Kd.R_over' (by (with_reducible repeat (first | apply Kd.zh | apply Kd.zg | apply Kd.zr)); exact (Kd.kn (Kd.R_far (p := ⟨gb173, 2, none⟩) (Kd.R_far (p := ⟨gb173, 1, none⟩) (Kd.R_far (p := ⟨gb173, 0, none⟩) (Kd.R_types HO_24.out BK173.out (by decide)) (fun _ hk => hk.2) (.string t169)) (fun _ hk => hk.2) (.int .i64 t170)) (fun _ hk => hk.2) (.string t171)) (fun _ h_ => h_.1))) (Kd.R_typed (by (with_reducible repeat (first | apply Kd.zh | apply Kd.zg | apply Kd.zr)); exact (Kd.kn (Kd.R_far (p := ⟨gb173, 2, none⟩) (Kd.R_far (p := ⟨gb173, 1, none⟩) (Kd.R_far (p := ⟨gb173, 0, none⟩) (Kd.kn HO_7.out (fun k_ hk => (⟨hk, hk.2⟩ : _ ∧ k_ ≠ gb173))) (fun _ hk => hk.2) (.string t169)) (fun _ hk => hk.2) (.int .i64 t170)) (fun _ hk => hk.2) (.string t171)) (fun _ h_ => h_.1)))) (by decide) hg); have n2_ := qa.mk (Kd.S_after (ok := (fun k_ => k_ ≠ gb173)) (by (with_reducible repeat (first | apply Kd.xg | apply Kd.xh | apply Kd.xv)); exact Kd.ku (Kd.S_far (p := ⟨gb173, 2, none⟩) (Kd.S_far (p := ⟨gb173, 1, none⟩) (Kd.S_far (p := ⟨gb173, 0, none⟩) (Kd.ku HO_158000.out (fun k_ hk => (⟨hk, hk.2⟩ : _ ∧ k_ ≠ gb173))) (fun _ hk => hk.2) (.string t169)) (fun _ hk => hk.2) (.int .i64 t170)) (fun _ hk => hk.2) (.string t171)) (fun _ hk => ⟨hk.1.2, hk.1.1⟩)) hg hat); have n3_ := qa.mk (kw (g := gb156) (o := .cells #[.slice none 0 0] 31 (0, 0)) (by (with_reducible repeat (first | refine qg ?_ _ | refine qi ?_ | refine qf ?_ _)); refine xt ?_ NB156_173.out _; (with_reducible repeat (first | refine qg ?_ _ | refine qi ?_ | refine qf ?_ _)); refine xt ?_ NB156_173.out _; (with_reducible repeat (first | refine qg ?_ _ | refine qi ?_ | refine qf ?_ _)); refine xt ?_ NB156_173.out _; (with_reducible repeat (first | refine qg ?_ _ | refine qi ?_ | refine qf ?_ _)); exact BK156.out) hg (Kd.R_ne HO_7.out BK156.out (by decide))); have n4_ := qa.mk (kw (g := gb157) (o := .cells #[u158000] 31 (0, 0)) (by (with_reducible repeat (first | refine qg ?_ _ | refine qi ?_ | refine qf ?_ _)); refine xt ?_ NB157_173.out _; (with_reducible repeat (first | refine qg ?_ _ | refine qi ?_ | refine qf ?_ _)); refine xt ?_ NB157_173.out _; (with_reducible repeat (first | refine qg ?_ _ | refine qi ?_ | refine qf ?_ _)); refine xt ?_ NB157_173.out _; (with_reducible repeat (first | refine qg ?_ _ | refine qi ?_ | refine qf ?_ _)); exact BK157.out) hg (Kd.R_ne HO_7.out BK157.out (by decide))); have n5_ := qa.mk (kw (g := gb173) (o := .cells #[.string t169, .int .i64 t170, .string t171] 40 (0, 0)) (by (with_reducible repeat (first | refine qg ?_ _ | refine qi ?_ | refine qf ?_ _)); refine zu (cs := #[.string t169, .int .i64 t170, .string (⟨#[]⟩ : ByteArray)]) ?_ 2 _ rfl; (with_reducible repeat (first | refine qg ?_ _ | refine qi ?_ | refine qf ?_ _)); refine zu (cs := #[.string t169, .int .i64 0, .string (⟨#[]⟩ : ByteArray)]) ?_ 1 _ rfl; (with_reducible repeat (first | refine qg ?_ _ | refine qi ?_ | refine qf ?_ _)); refine zu (cs := #[.string (⟨#[]⟩ : ByteArray), .int .i64 0, .string (⟨#[]⟩ : ByteArray)]) ?_ 0 _ rfl; (with_reducible repeat (first | refine qg ?_ _ | refine qi ?_ | refine qf ?_ _)); exact BK173.out) hg (Kd.R_away HO_7.out (fun _ hk => hk.2))); have n6_ := qa.mk (hb); have n7_ := qa.mk (ho); clear HO_17; clear HO_24; clear HO_158000; clear BK156; clear BK157; clear BK173; clear HB; clear HO_7; have HO_17 := n0_; have HO_24 := n1_; have HO_158000 := n2_; have BK156 := n3_; have BK157 := n4_; have BK173 := n5_; have HB := n6_; have HO176 := n7_; clear n0_ n1_ n2_ n3_ n4_ n5_ n6_ n7_; clear ho hb hg hat))
              go_roundg k2
              case measure => have := HK1.out; have := HK2.out; omega
              case rel => exact ⟨(y174), (wrap64 (x26_2 + 1)), yf, H', ⟨by have := HK1.out; have := HK2.out; omega⟩, ⟨by (with_reducible repeat (first | apply Kd.zh | apply Kd.zg | apply Kd.zr)); exact Kd.kn HO176.out (fun _ hk => trivial)⟩, ⟨by (with_reducible repeat (first | apply Kd.zh | apply Kd.zg | apply Kd.zr)); exact HO_17.out⟩, ⟨by (with_reducible repeat (first | apply Kd.zh | apply Kd.zg | apply Kd.zr)); exact HO_24.out⟩, ⟨by (with_reducible repeat (first | apply Kd.xg | apply Kd.xh | apply Kd.xv)); exact Kd.ku HO_158000.out (fun _ hk => hk.2)⟩, ⟨by (with_reducible repeat (first | refine qg ?_ _ | refine qi ?_ | refine qf ?_ _)); exact BK156.out⟩, ⟨by (with_reducible repeat (first | refine qg ?_ _ | refine qi ?_ | refine qf ?_ _)); exact BK157.out⟩, ⟨by repeat (first | (with_reducible first | exact HB.out | apply qc | apply qb | apply qd | refine qe ?_ GE156.out | refine qe ?_ GE157.out | refine qe ?_ GE173.out) | exact HB.out)⟩⟩
             ·rw [if_neg c24] at H
              exact absurd H yt
            ·replace c23 := Bool.eq_false_iff.mpr c23
             subst c23
             have H1 : (some (([] : List (List (S40))), 32)) = some (r1, r2) := by rw [if_neg (show ¬ (false = true) by decide)] at H; exact H
             clear H
             have H := H1
             clear H1
             simp only [Option.some.injEq, Prod.mk.injEq] at H
             obtain ⟨rfl, rfl⟩ := H
             have p168 : 0 ≤ (x26_2 : Int) := of_decide_eq_true cz
             have q168 : x26_2 < (t162.length : Int) := of_decide_eq_true cz
             obtain ⟨ad168, e168, hx168_0⟩ := Kd.at_string (Kd.xp HO_24.out).2.2 x26_2 p168 q168
             cases e168
             replace p168 := eq_true p168
             replace q168 := eq_true q168
             go_wp2_with (first | ((with_reducible refine zn (f := 57) rfl ?_); refine kd (some 32) rfl rfl Tryz.func57 yj rfl #[.string (rdOf ByteArray.empty t162 x26_2)] rfl yc ?_; (with_reducible refine (qq.calls k2 (rdOf ByteArray.empty t162 x26_2) t169 t170 t171 false _ ?side1 A22.out).mono ?_); (case side1 => exact LibHeld.below HG.out yl); rintro e w31 ⟨rfl, hb⟩; refine ⟨_, rfl, ?_⟩; have n0_ := qa.mk (Kd.kt cah hb); have n1_ := qa.mk (Kd.kt ul hb); have n2_ := qa.mk (Kd.kt cac hb); have n3_ := qa.mk (Kd.kk uk hb); have n4_ := qa.mk (q9 (g := gb156) (o := .cells #[.slice none 0 0] 31 (0, 0)) yn hb); have n5_ := qa.mk (q9 (g := gb157) (o := .cells #[u158000] 31 (0, 0)) yw hb); have n6_ := qa.mk (qp yl hb); clear HO_7; clear HO_17; clear HO_24; clear HO_158000; clear BK156; clear BK157; clear HB; have HO_7 := n0_; have HO_17 := n1_; have HO_24 := n2_; have HO_158000 := n3_; have BK156 := n4_; have BK157 := n5_; have HB := n6_; clear n0_ n1_ n2_ n3_ n4_ n5_ n6_; (try clear hb); (try clear hb2); (try clear hk); (try clear hi)) | ((with_reducible refine zl (N := 10) rfl ?_); refine zo ?hg (N := 10) ?hd (cs := #[.string (⟨#[]⟩ : ByteArray), .int .i64 0, .string (⟨#[]⟩ : ByteArray)]) (t := 40) ?hr ?_; (case hd => rfl); (case hg => rfl); (case hr => first | (go_simp; done) | (go_simp; rfl)); intro gb173 hg w32 hbox hb; have n0_ := qa.mk (Kd.kt (Kd.R_elderB cah gb173 (Nat.le_of_eq hg.symm)) hb); have n1_ := qa.mk (Kd.kt ul hb); have n2_ := qa.mk (Kd.kt cac hb); have n3_ := qa.mk (Kd.kk (Kd.S_elderB uk gb173 (Nat.le_of_eq hg.symm)) hb); have n4_ := qa.mk (q9 (g := gb156) (o := .cells #[.slice none 0 0] 31 (0, 0)) yn hb); have n5_ := qa.mk (q9 (g := gb157) (o := .cells #[u158000] 31 (0, 0)) yw hb); have n6_ := qa.mk (qp yl hb); have n7_ := qa.mk (hbox); have n8_ := qa.mk ((by rw [hg]; exact (qr yl) : w.heap.size ≤ gb173)); have n9_ := qa.mk ((by rw [hg]; exact (qr yl) : w.heap.size ≤ gb173)); have n10_ := qa.mk ((by rw [hg]; exact Nat.ne_of_lt (zz (g := gb156) (o := .cells #[.slice none 0 0] 31 (0, 0)) yn) : gb156 ≠ gb173)); have n11_ := qa.mk ((by rw [hg]; exact Nat.ne_of_gt (zz (g := gb156) (o := .cells #[.slice none 0 0] 31 (0, 0)) yn) : gb173 ≠ gb156)); have n12_ := qa.mk ((by rw [hg]; exact Nat.ne_of_lt (zz (g := gb157) (o := .cells #[u158000] 31 (0, 0)) yw) : gb157 ≠ gb173)); have n13_ := qa.mk ((by rw [hg]; exact Nat.ne_of_gt (zz (g := gb157) (o := .cells #[u158000] 31 (0, 0)) yw) : gb173 ≠ gb157)); clear HO_7; clear HO_17; clear HO_24; clear HO_158000; clear BK156; clear BK157; clear HB; have HO_7 := n0_; have HO_17 := n1_; have HO_24 := n2_; have HO_158000 := n3_; have BK156 := n4_; have BK157 := n5_; have HB := n6_; have BK173 := n7_; have GW173 := n8_; have GE173 := n9_; have NB156_173 := n10_; have NB173_156 := n11_; have NB157_173 := n12_; have NB173_157 := n13_; clear n0_ n1_ n2_ n3_ n4_ n5_ n6_ n7_ n8_ n9_ n10_ n11_ n12_ n13_; clear hb hbox hg; have hnb33 := NB173_156.out; have hnc33 := NB156_173.out; have hnb34 := NB173_157.out; have hnc34 := NB157_173.out; have hcz35_0 : w32.cell? ⟨gb173, 0, none⟩ = some (.string (⟨#[]⟩ : ByteArray)) := (ql BK173.out 0).trans rfl; have hcz35_1 : w32.cell? ⟨gb173, 1, none⟩ = some (.int .i64 0) := (ql BK173.out 1).trans rfl; have hcz35_2 : w32.cell? ⟨gb173, 2, none⟩ = some (.string (⟨#[]⟩ : ByteArray)) := (ql BK173.out 2).trans rfl; have hfz35_0 := qo BK173.out 0; have hfz35_1 := qo BK173.out 1; have hfz35_2 := qo BK173.out 2; have hnb36 := NB156_157.out; have hnc36 := NB157_156.out; have hcz37_0 : w32.cell? ⟨gb156, 0, none⟩ = some (.slice none 0 0) := (ql BK156.out 0).trans rfl; have hfz37_0 := qo BK156.out 0))
             refine bodyPost_ret (results_ct rfl _ _ gb156 31 #[.slice none 0 0] (0, 0) _ rfl (by (with_reducible repeat (first | refine qg ?_ _ | refine qi ?_ | refine qf ?_ _)); refine zu (cs := #[.slice none 0 0]) ?_ 0 _ rfl; (with_reducible repeat (first | refine qg ?_ _ | refine qi ?_ | refine qf ?_ _)); refine xt ?_ NB156_173.out _; (with_reducible repeat (first | refine qg ?_ _ | refine qi ?_ | refine qf ?_ _)); refine xt ?_ NB156_173.out _; (with_reducible repeat (first | refine qg ?_ _ | refine qi ?_ | refine qf ?_ _)); refine xt ?_ NB156_173.out _; (with_reducible repeat (first | refine qg ?_ _ | refine qi ?_ | refine qf ?_ _)); exact BK156.out) Tryz.underlying31 rfl yj) rfl ?_
             exact ⟨_, by first | rfl | (simp [qu, qt] <;> rfl) | (simp [*, qu, qt] <;> rfl), by first | exact Kd.S_nil _ _ _ _ _ | exact Kd.N_nil _ _ _ _ _ | exact Kd.V_nil _ _ _ _ _ | exact Kd.Q_nil _ _ _ _ _ | exact Kd.R_nil _ _ _ _ _, by repeat (first | (with_reducible first | exact HB.out | apply qc | apply qb | apply qd | refine qe ?_ GE156.out | refine qe ?_ GE157.out | refine qe ?_ GE173.out) | exact HB.out)⟩
           ·rw [if_neg c21] at H
            exact absurd H yt
          ·rw [if_neg c20] at H
           exact absurd H yt
         ·rw [if_neg c19] at H
          have c19b0 : decide (x26_2 < (t162.length : Int)) = false := decide_eq_false c19
          clear c19
          by_cases c38 : x158000_1.length < 5864062014805
          ·rw [if_pos c38] at H
           have LMc38 := qa.mk c38
           clear c38
           obtain ⟨y165, hy165⟩ : ∃ y_ : List (List (S40)), y_ = (x158000_1 ++ [x7_2]) := ⟨_, rfl⟩
           replace H : (zi.l0 k2 t158 (t158.length : Int) (wrap64 (x19_1 + 1)) y165) = some (r1, r2) := by first | (rw [hy165]; with_reducible exact H) | (have H2_ := (Option.bind_some _ _).symm.trans H; rw [hy165]; with_reducible exact H2_) | (have H2_ := (Option.bind_some _ _).symm.trans H; with_reducible exact H2_) | with_reducible exact H | (rw [hy165]; exact H) | exact H
           have Ny165 := qa.mk hy165
           clear hy165
           have H' := qa.mk H
           clear H
           have hnb39 := NB157_156.out
           have hnc39 := NB156_157.out
           have hcz40_0 : wr.cell? ⟨gb157, 0, none⟩ = some (u158000) := (ql BK157.out 0).trans rfl
           have hfz40_0 := qo BK157.out 0
           obtain ⟨Ao42, co42, eo42⟩ := Kd.kj HO_7.out
           subst eo42
           go_wp2_with (first | ((with_reducible refine xo (b := .append) (xs := #[.tmp 44, .tmp 46]) rfl ?_); at_builtin; refine Kd.S_append (Kd.slice 40 k40) (w0 := w) w.heap.size rfl (.tmp 44) (.tmp 46) 29 42 (.slice none 0 0) 24 rfl Tryz.underlying29 info42 rfl (by decide) yg u158000 x158000_1 x7_2 [.slice Ao42 x7_2.length co42] (fun _ => True) (fun k_ => some k_ = (.slice Ao42 x7_2.length co42 : Value).ownBlock) rfl rfl ?aP (fun k_ hk_ => ((Kd.kn (ok' := fun k_ => ((fun _ => True)) k_ ∧ some k_ ≠ (u158000 : Value).ownBlock) (Kd.R_apart' (HO_7.out) (Kd.S_typed HO_158000.out) (by decide)) (fun k_ hk => ⟨trivial, hk.2⟩))).1 k_ hk_.symm) ?aF ?aO ?aB ?aS ?aL ?_; (case aP => exact Kd.M_row (Kd.kn (Kd.R_tight rfl (Kd.kn (ok' := fun k_ => ((fun _ => True)) k_ ∧ some k_ ≠ (u158000 : Value).ownBlock) (Kd.R_apart' (HO_7.out) (Kd.S_typed HO_158000.out) (by decide)) (fun k_ hk => ⟨trivial, hk.2⟩))) (fun _ h_ => h_))); (case aB => exact yl); (case aF => exact (fun _ _ => trivial)); (case aO => exact (by (with_reducible repeat (first | apply Kd.xg | apply Kd.xh | apply Kd.xv)); exact Kd.ku HO_158000.out (fun k_ hk => ⟨trivial, fun e_ => hk e_⟩))); (case aS => exact (qr yl)); (case aL => have := LMc38.out; omega); intro v166 w41 ho hb hg hat; rw [← Ny165.out] at ho; have n0_ := qa.mk (Kd.R_over' ul (Kd.S_typed uk) (by decide) hg); have n1_ := qa.mk (Kd.R_over' cac (Kd.S_typed uk) (by decide) hg); have n2_ := qa.mk (kw (g := gb156) (o := .cells #[.slice none 0 0] 31 (0, 0)) yn hg (Kd.S_ne HO_158000.out BK156.out (by decide))); have n3_ := qa.mk (kw (g := gb157) (o := .cells #[u158000] 31 (0, 0)) yw hg (Kd.S_ne HO_158000.out BK157.out (by decide))); have n4_ := qa.mk (hb); have n5_ := qa.mk (ho); clear HO_17; clear HO_24; clear BK156; clear BK157; clear HB; clear HO_158000; clear HO_7; have HO_17 := n0_; have HO_24 := n1_; have BK156 := n2_; have BK157 := n3_; have HB := n4_; have HO167 := n5_; clear n0_ n1_ n2_ n3_ n4_ n5_; clear ho hb hg hat; obtain ⟨Ao43, co43, eo43⟩ := Kd.k8 HO167.out; subst eo43; have hcz44_0 : w41.cell? ⟨gb157, 0, none⟩ = some (u158000) := (ql BK157.out 0).trans rfl; have hfz44_0 := qo BK157.out 0))
           go_roundg k2
           case measure => have := HK1.out; have := HK2.out; omega
           case rel => exact ⟨(wrap64 (x19_1 + 1)), (y165), (.slice Ao43 y165.length co43), yf, H', ⟨by have := HK1.out; have := HK2.out; omega⟩, ⟨by (with_reducible repeat (first | apply Kd.zh | apply Kd.zg | apply Kd.zr)); exact Kd.kn (Kd.R_far (p := ⟨gb157, 0, none⟩) (Kd.R_types HO_17.out BK157.out (by decide)) (fun _ hk => hk.2) (.slice Ao43 y165.length co43)) (fun _ hk => trivial)⟩, ⟨by (with_reducible repeat (first | apply Kd.xg | apply Kd.xh | apply Kd.xv)); exact Kd.ku (Kd.S_far (p := ⟨gb157, 0, none⟩) (Kd.k6 HO167.out BK157.out (by decide)) (fun _ hk => hk.2) (.slice Ao43 y165.length co43)) (fun _ hk => trivial)⟩, ⟨by (with_reducible repeat (first | refine qg ?_ _ | refine qi ?_ | refine qf ?_ _)); refine xt ?_ NB156_157.out _; (with_reducible repeat (first | refine qg ?_ _ | refine qi ?_ | refine qf ?_ _)); exact BK156.out⟩, ⟨by (with_reducible repeat (first | refine qg ?_ _ | refine qi ?_ | refine qf ?_ _)); refine zu (cs := #[u158000]) ?_ 0 _ rfl; (with_reducible repeat (first | refine qg ?_ _ | refine qi ?_ | refine qf ?_ _)); exact BK157.out⟩, ⟨by repeat (first | (with_reducible first | exact HB.out | apply qc | apply qb | apply qd | refine qe ?_ GE156.out | refine qe ?_ GE157.out) | exact HB.out)⟩⟩
          ·rw [if_neg c38] at H
           exact absurd H yt
      ·rw [if_neg c15] at H
       exact absurd H yt
     ·rw [if_neg c14] at H
      exact absurd H yt
    ·rw [if_neg c13] at H
     have c13b0 : decide (x19_1 < (t158.length : Int)) = false := decide_eq_false c13
     clear c13
     replace H := Option.bind_eq_some_iff.mp H
     obtain ⟨t177, A450, H⟩ := H
     replace H : (if t177 = 0 then (some (x158000_1, 0)) else (some (([] : List (List (S40))), t177))) = some (r1, r2) := H
     have A45 := qa.mk A450
     clear A450
     by_cases c46 : t177 = 0
     ·rw [if_pos c46] at H
      have c46b0 : (t177 == 0) = true := beq_iff_eq.mpr c46
      have c46b1 : (t177 != 0) = false := bne_eq_false_iff_eq.mpr c46
      clear c46
      simp only [Option.some.injEq, Prod.mk.injEq] at H
      obtain ⟨rfl, rfl⟩ := H
      have hnb47 := NB157_156.out
      have hnc47 := NB156_157.out
      have hcz48_0 : wr.cell? ⟨gb157, 0, none⟩ = some (u158000) := (ql BK157.out 0).trans rfl
      have hfz48_0 := qo BK157.out 0
      obtain ⟨Ao49, co49, eo49⟩ := Kd.k8 HO_158000.out
      subst eo49
      go_wp2_with (first | ((with_reducible refine zn (f := 21) rfl ?_); refine kd (some 51) rfl rfl Tryz.func21 yj rfl #[.agg #[.slice Ao49 x158000_1.length co49]] rfl yc ?_; (with_reducible refine (z6.calls k1 _ _ x158000_1 t177 _ ?side3 ?side1 ?side2 A45.out).mono ?_); (case side1 => repeat (first | exact (Kd.ja HO_158000.out).2.2 | (with_reducible refine Kd.kr ?_ _) | (with_reducible refine Kd.ks ?_ _) | (with_reducible refine Kd.ky ?_))); (case side2 => exact (Kd.ja HO_158000.out).2.1); (case side3 => exact LibHeld.below HG.out yl); rintro e w50 ⟨rfl, hb⟩; refine ⟨_, rfl, ?_⟩; have n0_ := qa.mk (Kd.kt ul hb); have n1_ := qa.mk (Kd.kk uk hb); have n2_ := qa.mk (q9 (g := gb156) (o := .cells #[.slice none 0 0] 31 (0, 0)) yn hb); have n3_ := qa.mk (q9 (g := gb157) (o := .cells #[.slice Ao49 x158000_1.length co49] 31 (0, 0)) yw hb); have n4_ := qa.mk (qp yl hb); clear HO_17; clear HO_158000; clear BK156; clear BK157; clear HB; have HO_17 := n0_; have HO_158000 := n1_; have BK156 := n2_; have BK157 := n3_; have HB := n4_; clear n0_ n1_ n2_ n3_ n4_; (try clear hb); (try clear hb2); (try clear hk); (try clear hi); have hcz51_0 : w50.cell? ⟨gb157, 0, none⟩ = some (.slice Ao49 x158000_1.length co49) := (ql BK157.out 0).trans rfl; have hfz51_0 := qo BK157.out 0; have hcz52_0 : w50.cell? ⟨gb156, 0, none⟩ = some (.slice none 0 0) := (ql BK156.out 0).trans rfl; have hfz52_0 := qo BK156.out 0))
      refine bodyPost_ret (results_ct rfl _ _ gb156 31 #[.slice Ao49 x158000_1.length co49] (0, 0) _ rfl (by (with_reducible repeat (first | refine qg ?_ _ | refine qi ?_ | refine qf ?_ _)); refine zu (cs := #[.slice none 0 0]) ?_ 0 _ rfl; (with_reducible repeat (first | refine qg ?_ _ | refine qi ?_ | refine qf ?_ _)); exact BK156.out) Tryz.underlying31 rfl yj) rfl ?_
      exact ⟨_, by first | rfl | (simp [qu, qt] <;> rfl) | (simp [*, qu, qt] <;> rfl), by (with_reducible repeat (first | apply Kd.xg | apply Kd.xh | apply Kd.xv)); exact Kd.ku (Kd.S_far (p := ⟨gb156, 0, none⟩) (Kd.k6 HO_158000.out BK156.out (by decide)) (fun _ hk => hk.2) (.slice Ao49 x158000_1.length co49)) (fun _ hk => trivial), by repeat (first | (with_reducible first | exact HB.out | apply qc | apply qb | apply qd | refine qe ?_ GE156.out | refine qe ?_ GE157.out) | exact HB.out)⟩
     ·rw [if_neg c46] at H
      have c46b0 : (t177 == 0) = false := beq_eq_false_iff_ne.mpr c46
      have c46b1 : (t177 != 0) = true := bne_iff_ne.mpr c46
      simp only [Option.some.injEq, Prod.mk.injEq] at H
      obtain ⟨rfl, rfl⟩ := H
      have hnb53 := NB157_156.out
      have hnc53 := NB156_157.out
      have hcz54_0 : wr.cell? ⟨gb157, 0, none⟩ = some (u158000) := (ql BK157.out 0).trans rfl
      have hfz54_0 := qo BK157.out 0
      obtain ⟨Ao55, co55, eo55⟩ := Kd.k8 HO_158000.out
      subst eo55
      go_wp2_with (first | ((with_reducible refine zn (f := 21) rfl ?_); refine kd (some 51) rfl rfl Tryz.func21 yj rfl #[.agg #[.slice Ao55 x158000_1.length co55]] rfl yc ?_; (with_reducible refine (z6.calls k1 _ _ x158000_1 t177 _ ?side3 ?side1 ?side2 A45.out).mono ?_); (case side1 => repeat (first | exact (Kd.ja HO_158000.out).2.2 | (with_reducible refine Kd.kr ?_ _) | (with_reducible refine Kd.ks ?_ _) | (with_reducible refine Kd.ky ?_))); (case side2 => exact (Kd.ja HO_158000.out).2.1); (case side3 => exact LibHeld.below HG.out yl); rintro e w56 ⟨rfl, hb⟩; refine ⟨_, rfl, ?_⟩; have n0_ := qa.mk (Kd.kt ul hb); have n1_ := qa.mk (Kd.kk uk hb); have n2_ := qa.mk (q9 (g := gb156) (o := .cells #[.slice none 0 0] 31 (0, 0)) yn hb); have n3_ := qa.mk (q9 (g := gb157) (o := .cells #[.slice Ao55 x158000_1.length co55] 31 (0, 0)) yw hb); have n4_ := qa.mk (qp yl hb); clear HO_17; clear HO_158000; clear BK156; clear BK157; clear HB; have HO_17 := n0_; have HO_158000 := n1_; have BK156 := n2_; have BK157 := n3_; have HB := n4_; clear n0_ n1_ n2_ n3_ n4_; (try clear hb); (try clear hb2); (try clear hk); (try clear hi); have hcz57_0 : w56.cell? ⟨gb156, 0, none⟩ = some (.slice none 0 0) := (ql BK156.out 0).trans rfl; have hfz57_0 := qo BK156.out 0))
      refine bodyPost_ret (results_ct rfl _ _ gb156 31 #[.slice none 0 0] (0, 0) _ rfl (by (with_reducible repeat (first | refine qg ?_ _ | refine qi ?_ | refine qf ?_ _)); refine zu (cs := #[.slice none 0 0]) ?_ 0 _ rfl; (with_reducible repeat (first | refine qg ?_ _ | refine qi ?_ | refine qf ?_ _)); exact BK156.out) Tryz.underlying31 rfl yj) rfl ?_
      exact ⟨_, by first | rfl | (simp [qu, qt] <;> rfl) | (simp [*, qu, qt] <;> rfl), by first | exact Kd.S_nil _ _ _ _ _ | exact Kd.N_nil _ _ _ _ _ | exact Kd.V_nil _ _ _ _ _ | exact Kd.Q_nil _ _ _ _ _ | exact Kd.R_nil _ _ _ _ _, by repeat (first | (with_reducible first | exact HB.out | apply qc | apply qb | apply qd | refine qe ?_ GE156.out | refine qe ?_ GE157.out) | exact HB.out)⟩
end Go.Proofs.YthdoohfdminfgaaGreatDoor.C
end
section
namespace Go.Proofs.YthdoohfdminfgaaGreatDoor.C
open Go.RowKit Go.Proofs.YthdoohfdminfgaaGreatDoorW.PrintWords Go.Proofs.YthdoohfdminfgaaGreatDoorW.PrintLast Go.Proofs.YthdoohfdminfgaaGreatDoorW.PrintMore
attribute [local go_sem] xa z7 xq xr zx zy xc z8
set_option linter.unusedVariables false
set_option linter.unusedSimpArgs false
mutual
def zp.l0 : Nat → List Int → Bool → List Int → Int → Int → Option (ByteArray)
 | 0, _, _, _, _, _ => none
 | k + 1, x3, x4, x8, x9, x10 => if x10 < x9 then (if 0 ≤ x10 then (if x10 < (x8.length : Int) then (if (rd x8 x10) = 32 then (zp.l0 k x3 (decide ((x3.length : Int) > 0)) x8 x9 (wrap64 (x10 + 1))) else (if x4 = true then (if x3.length < 140737488355328 then (zp.j1 k (x3 ++ [32]) false (rd x8 x10) x8 x9 x10) else (none)) else (zp.j1 k x3 x4 (rd x8 x10) x8 x9 x10))) else (none)) else (none)) else (some (strOfNums x3))
def zp.j1 : Nat → List Int → Bool → Int → List Int → Int → Int → Option (ByteArray)
 | 0, _, _, _, _, _, _ => none
 | k + 1, x3, x4, x6, x8, x9, x10 => if x6 ≥ 65 then (if x6 ≤ 90 then (if x3.length < 140737488355328 then (zp.l0 k (x3 ++ [(x6 + 32) % 256]) x4 x8 x9 (wrap64 (x10 + 1))) else (none)) else (if x3.length < 140737488355328 then (zp.l0 k (x3 ++ [x6]) x4 x8 x9 (wrap64 (x10 + 1))) else (none))) else (if x3.length < 140737488355328 then (zp.l0 k (x3 ++ [x6]) x4 x8 x9 (wrap64 (x10 + 1))) else (none))
end
def zp.f (k : Nat) (a0 : ByteArray) : Option (ByteArray) := if a0.size ≤ 9223372036854775807 then ((some (bytesOf a0 : List Int)).bind fun y178 => (zp.l0 k ([] : List Int) false y178 (y178.length : Int) 0)) else (none)
theorem zp.xi : ∀ k, (∀ y0 y1 y2 y3 y4, LeO (zp.l0 k y0 y1 y2 y3 y4) (zp.l0 (k + 1) y0 y1 y2 y3 y4)) ∧ (∀ y0 y1 y2 y3 y4 y5, LeO (zp.j1 k y0 y1 y2 y3 y4 y5) (zp.j1 (k + 1) y0 y1 y2 y3 y4 y5))
 | 0 => ⟨fun _ _ _ _ _ r h => by simp [zp.l0] at h, fun _ _ _ _ _ _ r h => by simp [zp.j1] at h⟩
 | k + 1 => by
  obtain ⟨ih0, ih1⟩ := zp.xi k
  refine ⟨?_, ?_⟩
  ·intro y0 y1 y2 y3 y4
   unfold zp.l0
   repeat' first
   | (with_reducible exact ih0 _ _ _ _ _)
   | (with_reducible exact ih1 _ _ _ _ _ _)
   | (with_reducible exact LeO.refl _)
   | (with_reducible exact LeO.none _)
   | (with_reducible refine LeO.ite ?_ ?_)
   | (with_reducible refine LeO.bind ?_ (fun _ => ?_))
  ·intro y0 y1 y2 y3 y4 y5
   unfold zp.j1
   repeat' first
   | (with_reducible exact ih0 _ _ _ _ _)
   | (with_reducible exact ih1 _ _ _ _ _ _)
   | (with_reducible exact LeO.refl _)
   | (with_reducible exact LeO.none _)
   | (with_reducible refine LeO.ite ?_ ?_)
   | (with_reducible refine LeO.bind ?_ (fun _ => ?_))
theorem zp.mono : ∀ a0 k, LeO (zp.f k a0) (zp.f (k + 1) a0) := by
 intro a0 k
 obtain ⟨ih0, ih1⟩ := zp.xi k
 unfold zp.f
 repeat' first
   | (with_reducible exact ih0 _ _ _ _ _)
   | (with_reducible exact ih1 _ _ _ _ _ _)
   | (with_reducible exact LeO.refl _)
   | (with_reducible exact LeO.none _)
   | (with_reducible refine LeO.ite ?_ ?_)
   | (with_reducible refine LeO.bind ?_ (fun _ => ?_))
set_option maxHeartbeats 8000000 in
set_option maxRecDepth 100000 in
theorem zp.calls (k : Nat) (a0 : ByteArray) (r : ByteArray) (w : World) (h : zp.f k a0 = some r) :
  Calls Tryz.prog 61 #[.string a0] w fun e w' => e = .returned (.string r) ∧ Below w.heap.size w w' := by
 have HB := qa.mk (Below.refl w.heap.size w)
 have H : (if a0.size ≤ 9223372036854775807 then ((some (bytesOf a0 : List Int)).bind fun y178 => (zp.l0 k ([] : List Int) false y178 (y178.length : Int) 0)) else (none)) = some r := h
 clear h
 by_cases c2 : a0.size ≤ 9223372036854775807
 ·rw [if_pos c2] at H
  have c2b0 := eq_true c2
  have c2b1 : decide (a0.size ≤ 9223372036854775807) = true := decide_eq_true c2
  try have c2b2 : (9223372036854775807 < a0.size) = False := eq_false (Nat.not_lt.2 c2)
  clear c2
  obtain ⟨y178, hy178⟩ : ∃ y_ : List Int, y_ = (bytesOf a0) := ⟨_, rfl⟩
  replace H : (zp.l0 k ([] : List Int) false y178 (y178.length : Int) 0) = some r := by first | (rw [hy178]; with_reducible exact H) | (have H2_ := (Option.bind_some _ _).symm.trans H; rw [hy178]; with_reducible exact H2_) | (have H2_ := (Option.bind_some _ _).symm.trans H; with_reducible exact H2_) | with_reducible exact H | (rw [hy178]; exact H) | exact H
  have Ny178 := qa.mk hy178
  clear hy178
  have H' := qa.mk H
  clear H
  go_enter Tryz.func61, Tryz.ntmps61
  go_wp2_with (first | ((with_reducible refine zl (N := 8) rfl ?_); refine Kd.V_conv _ 5 rfl (N := 8) rfl 9 59 _ rfl a0 rfl Tryz.underlying9 Tryz.underlying59 Tryz.underlying5 (ok := fun k_ => w.heap.size ≤ k_) (Nat.le_refl _) (of_decide_eq_true cz) (Below.refl _ _) (Nat.le_refl _) ?_; intro v179 w3 ho4 hb hg_ hnew_; clear hg_ hnew_; (first | rw [← Ny178.out] at ho4 | (simp only [Int.reduceToNat] at ho4; rw [← Ny178.out] at ho4)); have n0_ := qa.mk (Kd.V_lower (Kd.V_mono (ok' := fun k_ => True) ho4 (fun k_ hk_ => trivial)) (qr cu)); have n1_ := qa.mk (qp cu hb); clear HB; have HO180 := n0_; have HB := n1_; clear n0_ n1_; clear hb ho4; obtain ⟨Ao5, co5, eo5⟩ := Kd.V_slice HO180.out; subst eo5))
  go_loopg [3, 4, 10] k (fun kq v3 v4 v10 w' => ∃ (x3_1 : List Int) (x4_1 : Bool) (x10_1 : Int), v4 = .bool x4_1 ∧ v10 = .int .i64 x10_1 ∧ qa (zp.l0 kq x3_1 x4_1 y178 (y178.length : Int) x10_1 = some r) ∧ qa (kq ≤ k) ∧ qa (Kd.R (Kd.int .u8) 5 w' w.heap.size (fun _ => True) v3 x3_1) ∧ qa (Kd.V (Kd.int .u8) 5 w' w.heap.size (fun k_ => some k_ ≠ (v3 : Value).ownBlock) (.slice Ao5 y178.length co5) y178) ∧ qa (Below w.heap.size w w'))
  case atStart => exact ⟨(([] : List Int)), (false), (0), yf, yf, H', ⟨Nat.le_refl _⟩, ⟨by first | exact Kd.R_nil _ _ _ _ _ | exact Kd.N_nil _ _ _ _ _ | exact Kd.V_nil _ _ _ _ _ | exact Kd.Q_nil _ _ _ _ _ | exact Kd.S_nil _ _ _ _ _⟩, ⟨by (with_reducible repeat (first | apply Kd.V_alloc | apply Kd.V_drewN | apply Kd.V_drew)); exact Kd.V_mono HO180.out (fun _ hk => (by simp [Value.ownBlock]))⟩, ⟨by repeat (first | (with_reducible first | exact HB.out | apply qc | apply qb | apply qd) | exact HB.out)⟩⟩
  case round =>
   clear H'
   (try clear c2); (try clear c2b0); (try clear c2b1); (try clear c2b2); try clear p2
   obtain ⟨x3_1, x4_1, x10_1, rfl, rfl, HA, HK1, HO_3, HO_8, HB⟩ := hrel
   cases gk with
   | zero => exact absurd HA.out (by simp [zp.l0])
   | succ k1 =>
    have H := HA.out
    clear HA
    simp only [zp.l0] at H
    by_cases c6 : x10_1 < (y178.length : Int)
    ·rw [if_pos c6] at H
     have c6b0 : decide (x10_1 < (y178.length : Int)) = true := decide_eq_true c6
     clear c6
     by_cases c7 : 0 ≤ x10_1
     ·rw [if_pos c7] at H
      have c7b0 : decide (0 ≤ x10_1) = true := decide_eq_true c7
      clear c7
      by_cases c8 : x10_1 < (y178.length : Int)
      ·rw [if_pos c8] at H
       have c8b0 : decide (x10_1 < (y178.length : Int)) = true := decide_eq_true c8
       clear c8
       by_cases c9 : (rd y178 x10_1) = 32
       ·rw [if_pos c9] at H
        have c9b0 : ((rd y178 x10_1) == 32) = true := beq_iff_eq.mpr c9
        have c9b1 : ((rd y178 x10_1) != 32) = false := bne_eq_false_iff_eq.mpr c9
        clear c9
        have H' := qa.mk H
        clear H
        have p181 : 0 ≤ (x10_1 : Int) := of_decide_eq_true cz
        have q181 : x10_1 < (y178.length : Int) := of_decide_eq_true cz
        obtain ⟨ad181, e181, hx181_0⟩ := Kd.at_int (Kd.V_reads' HO_8.out).2.2 x10_1 p181 q181
        cases e181
        replace p181 := eq_true p181
        replace q181 := eq_true q181
        obtain ⟨Ao10, co10, eo10⟩ := Kd.kj HO_3.out
        subst eo10
        go_wp2
        go_roundg k1
        case measure => have := HK1.out; omega
        case rel => exact ⟨(x3_1), (decide ((x3_1.length : Int) > 0)), (wrap64 (x10_1 + 1)), yf, yf, H', ⟨by have := HK1.out; omega⟩, ⟨by (with_reducible repeat (first | apply Kd.zh | apply Kd.zg | apply Kd.zr)); exact HO_3.out⟩, ⟨by (with_reducible repeat (first | apply Kd.V_alloc | apply Kd.V_drewN | apply Kd.V_drew)); exact HO_8.out⟩, ⟨by repeat (first | (with_reducible first | exact HB.out | apply qc | apply qb | apply qd) | exact HB.out)⟩⟩
       ·rw [if_neg c9] at H
        have c9b0 : ((rd y178 x10_1) == 32) = false := beq_eq_false_iff_ne.mpr c9
        have c9b1 : ((rd y178 x10_1) != 32) = true := bne_iff_ne.mpr c9
        have HC11 := qa.mk H
        clear H
        have p181 : 0 ≤ (x10_1 : Int) := of_decide_eq_true cz
        have q181 : x10_1 < (y178.length : Int) := of_decide_eq_true cz
        obtain ⟨ad181, e181, hx181_0⟩ := Kd.at_int (Kd.V_reads' HO_8.out).2.2 x10_1 p181 q181
        cases e181
        replace p181 := eq_true p181
        replace q181 := eq_true q181
        go_upto_if 19 with (fail)
        go_cut [3, 4] (fun v3 v4 wc => ∃ (kq : Nat) (x3_10 : List Int) (x4_10 : Bool), v4 = .bool x4_10 ∧ qa (zp.j1 kq x3_10 x4_10 (rd y178 x10_1) y178 (y178.length : Int) x10_1 = some r) ∧ qa (kq ≤ k1) ∧ qa (Kd.R (Kd.int .u8) 5 wc w.heap.size (fun _ => True) v3 x3_10) ∧ qa (Kd.V (Kd.int .u8) 5 wc w.heap.size (fun k_ => some k_ ≠ (v3 : Value).ownBlock) (.slice (some ad181) y178.length co5) y178) ∧ qa (Below w.heap.size w wc))
        case first =>
         have H := HC11.out
         clear HC11
         by_cases c12 : x4_1 = true
         ·subst c12
          have H1 : (if x3_1.length < 140737488355328 then (zp.j1 k1 (x3_1 ++ [32]) false (rd y178 x10_1) y178 (y178.length : Int) x10_1) else (none)) = some r := by rw [if_pos rfl] at H; exact H
          clear H
          have H := H1
          clear H1
          by_cases c13 : x3_1.length < 140737488355328
          ·rw [if_pos c13] at H
           have LMc13 := qa.mk c13
           clear c13
           obtain ⟨y182, hy182⟩ : ∃ y_ : List Int, y_ = (x3_1 ++ [32]) := ⟨_, rfl⟩
           replace H : (zp.j1 k1 y182 false (rd y178 x10_1) y178 (y178.length : Int) x10_1) = some r := by first | (rw [hy182]; with_reducible exact H) | (have H2_ := (Option.bind_some _ _).symm.trans H; rw [hy182]; with_reducible exact H2_) | (have H2_ := (Option.bind_some _ _).symm.trans H; with_reducible exact H2_) | with_reducible exact H | (rw [hy182]; exact H) | exact H
           have Ny182 := qa.mk hy182
           clear hy182
           have H' := qa.mk H
           clear H
           go_wp2_with (first | ((with_reducible refine xo (b := .append) (xs := #[.tmp 20, .tmp 21]) rfl ?_); at_builtin; refine Kd.kv (Kd.int .u8) (w0 := w) w.heap.size rfl (.tmp 20) (.tmp 21) 59 5 (.int .u8 0) 1 rfl Tryz.underlying59 info5 rfl (by decide) yg u3 x3_1 32 [.int .u8 32] (fun _ => True) (fun _ => False) rfl rfl ?aP (fun _ hk => hk.elim) ?aF ?aO ?aB ?aS ?aL ?_; (case aP => exact rfl); (case aB => exact cu); (case aF => exact (fun _ _ => trivial)); (case aO => exact cad); (case aS => exact (qr cu)); (case aL => have := LMc13.out; omega); intro v183 w14 ho hb hg hat; rw [← Ny182.out] at ho; have n0_ := qa.mk (Kd.V_afterv (ok := (fun _ => True)) (by (with_reducible repeat (first | apply Kd.V_alloc | apply Kd.V_drewN | apply Kd.V_drew)); exact Kd.V_mono HO_8.out (fun _ hk => ⟨trivial, hk⟩)) hg hat); have n1_ := qa.mk (hb); have n2_ := qa.mk (ho); clear HO_8; clear HB; clear HO_3; have HO_8 := n0_; have HB := n1_; have HO184 := n2_; clear n0_ n1_ n2_; clear ho hb hg hat))
           go_meet
           case rel => exact ⟨_, (y182), (false), yf, H', ⟨by have := HK1.out; first | omega | exact Nat.le_refl _⟩, ⟨by (with_reducible repeat (first | apply Kd.zh | apply Kd.zg | apply Kd.zr)); exact HO184.out⟩, ⟨by (with_reducible repeat (first | apply Kd.V_alloc | apply Kd.V_drewN | apply Kd.V_drew)); exact Kd.V_mono HO_8.out (fun _ hk => hk.2)⟩, ⟨by repeat (first | (with_reducible first | exact HB.out | apply qc | apply qb | apply qd) | exact HB.out)⟩⟩
          ·rw [if_neg c13] at H
           exact absurd H yt
         ·replace c12 := Bool.eq_false_iff.mpr c12
          subst c12
          have H1 : (zp.j1 k1 x3_1 false (rd y178 x10_1) y178 (y178.length : Int) x10_1) = some r := by rw [if_neg (show ¬ (false = true) by decide)] at H; exact H
          clear H
          have H := H1
          clear H1
          have H' := qa.mk H
          clear H
          go_wp2
          go_meet
          case rel => exact ⟨_, (x3_1), (false), yf, H', ⟨by have := HK1.out; first | omega | exact Nat.le_refl _⟩, ⟨by (with_reducible repeat (first | apply Kd.zh | apply Kd.zg | apply Kd.zr)); exact HO_3.out⟩, ⟨by (with_reducible repeat (first | apply Kd.V_alloc | apply Kd.V_drewN | apply Kd.V_drew)); exact HO_8.out⟩, ⟨by repeat (first | (with_reducible first | exact HB.out | apply qc | apply qb | apply qd) | exact HB.out)⟩⟩
        case rest =>
         clear HC11
         (try clear c1); (try clear p1); (try clear q1); (try clear hx1); (try clear c2); (try clear c2b0); (try clear c2b1); (try clear c2b2); (try clear p2); (try clear c6); (try clear c6b0); try clear p6
         (try clear c7); (try clear c7b0); (try clear c8); (try clear c8b0); (try clear c9); (try clear c9b0); (try clear c9b1); (try clear c12); (try clear c13); (try clear hx181_0); try clear p181
         (try clear p2); try clear q181
         obtain ⟨kq, x3_10, x4_10, rfl, HA, HJ10, HO_3, HO_8, HB⟩ := hcut
         cases kq with
         | zero => exact absurd HA.out (by simp [zp.j1])
         | succ kj10 =>
          have H := HA.out
          clear HA
          simp only [zp.j1] at H
          by_cases c15 : (rd y178 x10_1) ≥ 65
          ·rw [if_pos c15] at H
           have c15b0 : decide (65 ≤ (rd y178 x10_1)) = true := decide_eq_true c15
           clear c15
           by_cases c16 : (rd y178 x10_1) ≤ 90
           ·rw [if_pos c16] at H
            have c16b0 : decide ((rd y178 x10_1) ≤ 90) = true := decide_eq_true c16
            clear c16
            by_cases c17 : x3_10.length < 140737488355328
            ·rw [if_pos c17] at H
             have LMc17 := qa.mk c17
             clear c17
             obtain ⟨y185, hy185⟩ : ∃ y_ : List Int, y_ = (x3_10 ++ [((rd y178 x10_1) + 32) % 256]) := ⟨_, rfl⟩
             replace H : (zp.l0 kj10 y185 x4_10 y178 (y178.length : Int) (wrap64 (x10_1 + 1))) = some r := by first | (rw [hy185]; with_reducible exact H) | (have H2_ := (Option.bind_some _ _).symm.trans H; rw [hy185]; with_reducible exact H2_) | (have H2_ := (Option.bind_some _ _).symm.trans H; with_reducible exact H2_) | with_reducible exact H | (rw [hy185]; exact H) | exact H
             have Ny185 := qa.mk hy185
             clear hy185
             have H' := qa.mk H
             clear H
             go_wp2_with (first | ((with_reducible refine xo (b := .append) (xs := #[.tmp 31, .tmp 33]) rfl ?_); at_builtin; refine Kd.kv (Kd.int .u8) (w0 := w) w.heap.size rfl (.tmp 31) (.tmp 33) 59 5 (.int .u8 0) 1 rfl Tryz.underlying59 info5 rfl (by decide) yg u3 x3_10 (((rd y178 x10_1) + 32) % 256) [.int .u8 (((rd y178 x10_1) + 32) % 256)] (fun _ => True) (fun _ => False) rfl rfl ?aP (fun _ hk => hk.elim) ?aF ?aO ?aB ?aS ?aL ?_; (case aP => exact rfl); (case aB => exact cu); (case aF => exact (fun _ _ => trivial)); (case aO => exact cad); (case aS => exact (qr cu)); (case aL => have := LMc17.out; omega); intro v186 w18 ho hb hg hat; rw [← Ny185.out] at ho; have n0_ := qa.mk (Kd.V_afterv (ok := (fun _ => True)) (by (with_reducible repeat (first | apply Kd.V_alloc | apply Kd.V_drewN | apply Kd.V_drew)); exact Kd.V_mono HO_8.out (fun _ hk => ⟨trivial, hk⟩)) hg hat); have n1_ := qa.mk (hb); have n2_ := qa.mk (ho); clear HO_8; clear HB; clear HO_3; have HO_8 := n0_; have HB := n1_; have HO187 := n2_; clear n0_ n1_ n2_; clear ho hb hg hat))
             go_roundg kj10
             case measure => have := HK1.out; have := HJ10.out; omega
             case rel => exact ⟨(y185), (x4_10), (wrap64 (x10_1 + 1)), yf, yf, H', ⟨by have := HK1.out; have := HJ10.out; omega⟩, ⟨by (with_reducible repeat (first | apply Kd.zh | apply Kd.zg | apply Kd.zr)); exact HO187.out⟩, ⟨by (with_reducible repeat (first | apply Kd.V_alloc | apply Kd.V_drewN | apply Kd.V_drew)); exact Kd.V_mono HO_8.out (fun _ hk => hk.2)⟩, ⟨by repeat (first | (with_reducible first | exact HB.out | apply qc | apply qb | apply qd) | exact HB.out)⟩⟩
            ·rw [if_neg c17] at H
             exact absurd H yt
           ·rw [if_neg c16] at H
            have c16b0 : decide ((rd y178 x10_1) ≤ 90) = false := decide_eq_false c16
            clear c16
            by_cases c19 : x3_10.length < 140737488355328
            ·rw [if_pos c19] at H
             have LMc19 := qa.mk c19
             clear c19
             obtain ⟨y188, hy188⟩ : ∃ y_ : List Int, y_ = (x3_10 ++ [(rd y178 x10_1)]) := ⟨_, rfl⟩
             replace H : (zp.l0 kj10 y188 x4_10 y178 (y178.length : Int) (wrap64 (x10_1 + 1))) = some r := by first | (rw [hy188]; with_reducible exact H) | (have H2_ := (Option.bind_some _ _).symm.trans H; rw [hy188]; with_reducible exact H2_) | (have H2_ := (Option.bind_some _ _).symm.trans H; with_reducible exact H2_) | with_reducible exact H | (rw [hy188]; exact H) | exact H
             have Ny188 := qa.mk hy188
             clear hy188
             have H' := qa.mk H
             clear H
             go_wp2_with (first | ((with_reducible refine xo (b := .append) (xs := #[.tmp 31, .tmp 33]) rfl ?_); at_builtin; refine Kd.kv (Kd.int .u8) (w0 := w) w.heap.size rfl (.tmp 31) (.tmp 33) 59 5 (.int .u8 0) 1 rfl Tryz.underlying59 info5 rfl (by decide) yg u3 x3_10 (rd y178 x10_1) [.int .u8 (rd y178 x10_1)] (fun _ => True) (fun _ => False) rfl rfl ?aP (fun _ hk => hk.elim) ?aF ?aO ?aB ?aS ?aL ?_; (case aP => exact rfl); (case aB => exact cu); (case aF => exact (fun _ _ => trivial)); (case aO => exact cad); (case aS => exact (qr cu)); (case aL => have := LMc19.out; omega); intro v189 w20 ho hb hg hat; rw [← Ny188.out] at ho; have n0_ := qa.mk (Kd.V_afterv (ok := (fun _ => True)) (by (with_reducible repeat (first | apply Kd.V_alloc | apply Kd.V_drewN | apply Kd.V_drew)); exact Kd.V_mono HO_8.out (fun _ hk => ⟨trivial, hk⟩)) hg hat); have n1_ := qa.mk (hb); have n2_ := qa.mk (ho); clear HO_8; clear HB; clear HO_3; have HO_8 := n0_; have HB := n1_; have HO190 := n2_; clear n0_ n1_ n2_; clear ho hb hg hat))
             go_roundg kj10
             case measure => have := HK1.out; have := HJ10.out; omega
             case rel => exact ⟨(y188), (x4_10), (wrap64 (x10_1 + 1)), yf, yf, H', ⟨by have := HK1.out; have := HJ10.out; omega⟩, ⟨by (with_reducible repeat (first | apply Kd.zh | apply Kd.zg | apply Kd.zr)); exact HO190.out⟩, ⟨by (with_reducible repeat (first | apply Kd.V_alloc | apply Kd.V_drewN | apply Kd.V_drew)); exact Kd.V_mono HO_8.out (fun _ hk => hk.2)⟩, ⟨by repeat (first | (with_reducible first | exact HB.out | apply qc | apply qb | apply qd) | exact HB.out)⟩⟩
            ·rw [if_neg c19] at H
             exact absurd H yt
          ·rw [if_neg c15] at H
           have c15b0 : decide (65 ≤ (rd y178 x10_1)) = false := decide_eq_false c15
           clear c15
           by_cases c21 : x3_10.length < 140737488355328
           ·rw [if_pos c21] at H
            have LMc21 := qa.mk c21
            clear c21
            obtain ⟨y191, hy191⟩ : ∃ y_ : List Int, y_ = (x3_10 ++ [(rd y178 x10_1)]) := ⟨_, rfl⟩
            replace H : (zp.l0 kj10 y191 x4_10 y178 (y178.length : Int) (wrap64 (x10_1 + 1))) = some r := by first | (rw [hy191]; with_reducible exact H) | (have H2_ := (Option.bind_some _ _).symm.trans H; rw [hy191]; with_reducible exact H2_) | (have H2_ := (Option.bind_some _ _).symm.trans H; with_reducible exact H2_) | with_reducible exact H | (rw [hy191]; exact H) | exact H
            have Ny191 := qa.mk hy191
            clear hy191
            have H' := qa.mk H
            clear H
            go_wp2_with (first | ((with_reducible refine xo (b := .append) (xs := #[.tmp 31, .tmp 33]) rfl ?_); at_builtin; refine Kd.kv (Kd.int .u8) (w0 := w) w.heap.size rfl (.tmp 31) (.tmp 33) 59 5 (.int .u8 0) 1 rfl Tryz.underlying59 info5 rfl (by decide) yg u3 x3_10 (rd y178 x10_1) [.int .u8 (rd y178 x10_1)] (fun _ => True) (fun _ => False) rfl rfl ?aP (fun _ hk => hk.elim) ?aF ?aO ?aB ?aS ?aL ?_; (case aP => exact rfl); (case aB => exact cu); (case aF => exact (fun _ _ => trivial)); (case aO => exact cad); (case aS => exact (qr cu)); (case aL => have := LMc21.out; omega); intro v192 w22 ho hb hg hat; rw [← Ny191.out] at ho; have n0_ := qa.mk (Kd.V_afterv (ok := (fun _ => True)) (by (with_reducible repeat (first | apply Kd.V_alloc | apply Kd.V_drewN | apply Kd.V_drew)); exact Kd.V_mono HO_8.out (fun _ hk => ⟨trivial, hk⟩)) hg hat); have n1_ := qa.mk (hb); have n2_ := qa.mk (ho); clear HO_8; clear HB; clear HO_3; have HO_8 := n0_; have HB := n1_; have HO193 := n2_; clear n0_ n1_ n2_; clear ho hb hg hat))
            go_roundg kj10
            case measure => have := HK1.out; have := HJ10.out; omega
            case rel => exact ⟨(y191), (x4_10), (wrap64 (x10_1 + 1)), yf, yf, H', ⟨by have := HK1.out; have := HJ10.out; omega⟩, ⟨by (with_reducible repeat (first | apply Kd.zh | apply Kd.zg | apply Kd.zr)); exact HO193.out⟩, ⟨by (with_reducible repeat (first | apply Kd.V_alloc | apply Kd.V_drewN | apply Kd.V_drew)); exact Kd.V_mono HO_8.out (fun _ hk => hk.2)⟩, ⟨by repeat (first | (with_reducible first | exact HB.out | apply qc | apply qb | apply qd) | exact HB.out)⟩⟩
           ·rw [if_neg c21] at H
            exact absurd H yt
      ·rw [if_neg c8] at H
       exact absurd H yt
     ·rw [if_neg c7] at H
      exact absurd H yt
    ·rw [if_neg c6] at H
     have c6b0 : decide (x10_1 < (y178.length : Int)) = false := decide_eq_false c6
     clear c6
     obtain rfl := Option.some.inj H
     have hcv23 := own_string (P := Tryz.prog) Tryz.underlying59 Tryz.underlying5 Tryz.underlying9 (Kd.own_of_R HO_3.out)
     go_wp2
     go_ret
     exact ⟨by first | rfl | (simp [qu, qt] <;> rfl) | (simp [*, qu, qt] <;> rfl), by repeat (first | (with_reducible first | exact HB.out | apply qc | apply qb | apply qd) | exact HB.out)⟩
 ·rw [if_neg c2] at H
  exact absurd H yt
def k7.f (k : Nat) (a0 : ByteArray) (a1 : ByteArray) : Option (Bool) := (zp.f k a0).bind fun t194 => ((zp.f k a1).bind fun t195 => (some (t194.toList == t195.toList)))
theorem k7.mono : ∀ a0 a1 k, LeO (k7.f k a0 a1) (k7.f (k + 1) a0 a1) := by
 intro a0 a1 k
 unfold k7.f
 repeat' first
   | (with_reducible exact zp.mono _ _)
   | (with_reducible exact LeO.refl _)
   | (with_reducible exact LeO.none _)
   | (with_reducible refine LeO.ite ?_ ?_)
   | (with_reducible refine LeO.bind ?_ (fun _ => ?_))
set_option maxHeartbeats 8000000 in
set_option maxRecDepth 100000 in
theorem k7.calls (k : Nat) (a0 : ByteArray) (a1 : ByteArray) (r : Bool) (w : World) (h : k7.f k a0 a1 = some r) :
  Calls Tryz.prog 168 #[.string a0, .string a1] w fun e w' => e = .returned (.bool r) ∧ Below w.heap.size w w' := by
 have HB := qa.mk (Below.refl w.heap.size w)
 have H : ((zp.f k a0).bind fun t194 => ((zp.f k a1).bind fun t195 => (some (t194.toList == t195.toList)))) = some r := h
 clear h
 replace H := Option.bind_eq_some_iff.mp H
 obtain ⟨t194, A30, H⟩ := H
 replace H : ((zp.f k a1).bind fun t195 => (some (t194.toList == t195.toList))) = some r := H
 have A3 := qa.mk A30
 clear A30
 replace H := Option.bind_eq_some_iff.mp H
 obtain ⟨t195, A40, H⟩ := H
 replace H : (some (t194.toList == t195.toList)) = some r := H
 have A4 := qa.mk A40
 clear A40
 obtain rfl := Option.some.inj H
 go_enter Tryz.func168, Tryz.ntmps168
 go_wp2_with (first | ((with_reducible refine zn (f := 61) rfl ?_); refine kd (some 6) rfl rfl Tryz.func61 yj rfl #[.string a0] rfl yc ?_; (with_reducible refine (zp.calls k a0 t194 _ A3.out).mono ?_); rintro e w5 ⟨rfl, hb⟩; refine ⟨_, rfl, ?_⟩; have n0_ := qa.mk (qp cu hb); clear HB; have HB := n0_; clear n0_; (try clear hb); (try clear hb2); (try clear hk); (try clear hi)) | ((with_reducible refine zn (f := 61) rfl ?_); refine kd (some 8) rfl rfl Tryz.func61 yj rfl #[.string a1] rfl yc ?_; (with_reducible refine (zp.calls k a1 t195 _ A4.out).mono ?_); rintro e w6 ⟨rfl, hb⟩; refine ⟨_, rfl, ?_⟩; have n0_ := qa.mk (qp cu hb); clear HB; have HB := n0_; clear n0_; (try clear hb); (try clear hb2); (try clear hk); (try clear hi)))
 go_ret
 exact ⟨by first | rfl | (simp [qu, qt] <;> rfl) | (simp [*, qu, qt] <;> rfl), by repeat (first | (with_reducible first | exact HB.out | apply qc | apply qb | apply qd) | exact HB.out)⟩
end Go.Proofs.YthdoohfdminfgaaGreatDoor.C
end
