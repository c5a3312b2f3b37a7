/- Words, walks and plain laws that the claim rests on, gathered. -/
import Derived.Test.YthdoohfdminfgaaGreatDoorProg
import Derived.WalkSpells
import Derived.Below
import Derived.Deep.Draws
import Derived.Deep.AppendLies
import Derived.Maps.AppendAt
import Derived.OwnWalk
import Derived.Laws.BytesArg
import Derived.Laws.MakeOwn
import Derived.Laws.OwnMore
import Derived.Deep.OwnRows
import Derived.Tactics
import Derived.Lib.ConvBytes
import Derived.Laws.Slices
import Derived.WalkKit
import Derived.KernelRfl
import Derived.RowKit3
import Derived.Deep.LoopGhost
import Derived.Deep.QuietTactic
import Derived.BigQuiet
import Derived.WideLaws
import Derived.Deep.DeepCutAuto
import Derived.Deep.CutBlock
import Derived.Deep.RegionHeld3
import Derived.Laws.Rows
import Derived.Lib.AppendStr
import Derived.ArgAppend
import Derived.Laws.IdiomCopy
import Derived.OrdersHeld
import Derived.Laws.BitsLemmas
import Derived.RowKit
import Derived.WalkLawsBesides
import Derived.Shelf.Strings.Builder1
import Derived.Shelf.Strings.Builder2
import Derived.Shelf.Strings.OnBuilder
import Derived.Shelf.Small.Bits
import Derived.Shelf.Small.Strs
import Derived.Shelf.Strings.BuilderF
import Derived.Shelf.Strings.BuilderK
import Derived.Shelf.Utf8.RuneCount
import Derived.Shelf.Strings.Builder2Cap
import Derived.Shelf.Strconv.Itoa0
import Derived.Shelf.Strconv.Itoa1
import Derived.Shelf.LaysM
import Derived.Shelf.Strconv.Itoa2
import Derived.Shelf.Strconv.Itoa3
import Derived.Shelf.Strings.Search1
import Derived.Shelf.Strings.Search2
import Derived.Shelf.Strings.Search3
import Derived.Shelf.Strings.Cut
import Derived.Shelf.Strings.Count
import Derived.Shelf.Strings.Shaped
import Derived.Shelf.Sort.Plain
import Derived.Ground.GgsProg
import Derived.Shelf.GgSortFunc.Insertion
import Derived.Shelf.GgSortFunc.Small
import Derived.Shelf.GgSortFunc.InsertionK
import Derived.Shelf.GgSortFunc.SmallK
import Derived.Shelf.GgSortFunc.Tiny
import Derived.Shelf.GgSortFunc.Compose
import Derived.Shelf.GgSortFunc.LotD
import Derived.Shelf.GgSortFunc.Pivot
import Derived.Shelf.GgSortFunc.Partition
import Derived.Shelf.GgSortFunc.Pdq
import Derived.Shelf.GgSortFunc.Whole
import Derived.Shelf.Strings.Prefix
import Derived.Shelf.Strings.Split
import Derived.Shelf.Strings.SplitShaped
import Derived.Shelf.Unicode.Decode
import Derived.Shelf.Strings.RuneCount
import Derived.Shelf.Strings.Explode
import Derived.Shelf.Unicode.DecodeSlow
import Derived.Shelf.Unicode.DecodeAny
import Derived.Shelf.Strings.BuilderCap
import Derived.Shelf.Slices.In.SortNone
import Derived.Shelf.Slices.In.SortNone2
import Derived.Shelf.SlSortFunc.Xorshift
import Derived.Shelf.SlSortFuncK.ComposeK
import Derived.Shelf.SlSortFuncK.SiftDownK
import Derived.Shelf.SlSortFuncK.HeapSortK
import Derived.Shelf.SlSortFuncK.PartialInsertionK
import Derived.Shelf.SlSortFuncK.LotDK
import Derived.Shelf.SlSortFuncK.PivotK
import Derived.Shelf.SlSortFuncK.PartitionK
import Derived.Shelf.SlSortFunc.SiftDown
import Derived.Shelf.SlSortFunc.HeapSort
import Derived.Shelf.SlSortFunc.PartialInsertion
import Derived.Shelf.SlSortFuncK.PdqK
import Derived.Shelf.SlSortFuncK.WholeK
import Derived.Laws.StructEq
import Derived.Test.YthdoohfdminfgaaGreatDoorNK0
import Derived.Test.YthdoohfdminfgaaGreatDoorNK1
import Derived.Test.YthdoohfdminfgaaGreatDoorNK2
import Derived.Test.YthdoohfdminfgaaGreatDoorNK9
import Derived.Test.YthdoohfdminfgaaGreatDoorNK10
import Derived.Test.YthdoohfdminfgaaGreatDoorNK11
import Derived.Test.YthdoohfdminfgaaGreatDoorNKc
namespace Go.Proofs.YthdoohfdminfgaaGreatDoorW.PrintLast
end Go.Proofs.YthdoohfdminfgaaGreatDoorW.PrintLast
namespace Go.Proofs.YthdoohfdminfgaaGreatDoorW.PrintMore
end Go.Proofs.YthdoohfdminfgaaGreatDoorW.PrintMore
namespace Go.Proofs.YthdoohfdminfgaaGreatDoorW.PrintWords
end Go.Proofs.YthdoohfdminfgaaGreatDoorW.PrintWords
section
namespace Go.Proofs.YthdoohfdminfgaaGreatDoor.C
open Go.RowKit Go.Proofs.YthdoohfdminfgaaGreatDoorW.PrintWords Go.Proofs.YthdoohfdminfgaaGreatDoorW.PrintLast Go.Proofs.YthdoohfdminfgaaGreatDoorW.PrintMore
attribute [local go_sem] xa z7 xq xr zx zy xc z8
set_option linter.unusedVariables false
set_option linter.unusedSimpArgs false
def qv.l0 : Nat → Int → Int → List (List (S40)) → List (List (S40)) → Option (Bool)
 | 0, _, _, _, _ => none
 | k + 1, x15, x16, x267000, x268000 => if x16 < x15 then (if 0 ≤ x16 then (if x16 < (x267000.length : Int) then (if x16 < (x268000.length : Int) then ((q8.f k (xx x267000 x16) (xx x268000 x16)).bind fun t270 => (if t270 = true then (qv.l0 k x15 (wrap64 (x16 + 1)) x267000 x268000) else (some false))) else (none)) else (none)) else (none)) else (some true)
def qv.f (k : Nat) (l0_0 : List (List (S40))) (l1_0 : List (List (S40))) : Option (Bool) := if (l1_0.length : Int) > (l0_0.length : Int) then (some false) else (qv.l0 k (l1_0.length : Int) 0 l0_0 l1_0)
theorem qv.xi : ∀ k, (∀ y0 y1 y2 y3, LeO (qv.l0 k y0 y1 y2 y3) (qv.l0 (k + 1) y0 y1 y2 y3))
 | 0 => fun _ _ _ _ r h => by simp [qv.l0] at h
 | k + 1 => by
  have ih0 := qv.xi k
  ·intro y0 y1 y2 y3
   unfold qv.l0
   repeat' first
   | (with_reducible exact ih0 _ _ _ _)
   | (with_reducible exact q8.mono _ _ _)
   | (with_reducible exact LeO.refl _)
   | (with_reducible exact LeO.none _)
   | (with_reducible refine LeO.ite ?_ ?_)
   | (with_reducible refine LeO.bind ?_ (fun _ => ?_))
theorem qv.mono : ∀ a0 a1 k, LeO (qv.f k a0 a1) (qv.f (k + 1) a0 a1) := by
 intro a0 a1 k
 have ih0 := qv.xi k
 unfold qv.f
 repeat' first
   | (with_reducible exact ih0 _ _ _ _)
   | (with_reducible exact q8.mono _ _ _)
   | (with_reducible exact LeO.refl _)
   | (with_reducible exact LeO.none _)
   | (with_reducible refine LeO.ite ?_ ?_)
   | (with_reducible refine LeO.bind ?_ (fun _ => ?_))
def qv.T6 : Bool × List (List Nat × List Nat) := (true, [([], []), ([0], [0]), ([], []), ([1, 2], [1, 2]), ([3], [3]), ([], []), ([5], [5]), ([], []), ([6, 7], [6, 7]), ([8], [8]), ([4, 9], [4, 9]), ([10], [10])])
def qv.B6 : List Nat := [0, 1, 0, 7, 15, 0, 32, 0, 224, 480, 1023, 2047]
theorem qv.tab6 : rtab .any (opsOf Tryz.f58 6) = qv.T6 := by kernel_rfl
theorem qv.bits6 : waitsOk qv.T6.2 qv.B6 = true := by kernel_rfl
set_option maxHeartbeats 8000000 in
set_option maxRecDepth 100000 in
theorem qv.calls (k : Nat) (A0_0 : Option Addr) (c0_0 : Nat) (l0_0 : List (List (S40))) (A1_0 : Option Addr) (c1_0 : Nat) (l1_0 : List (List (S40))) (r : Bool) (w : World) (hr0_0 : Kd.C (Kd.slice 40 k40) w A0_0 l0_0.length l0_0) (hc0_0 : l0_0.length ≤ c0_0) (hr1_0 : Kd.C (Kd.slice 40 k40) w A1_0 l1_0.length l1_0) (hc1_0 : l1_0.length ≤ c1_0) (h : qv.f k l0_0 l1_0 = some r) :
  Calls Tryz.prog 58 #[.agg #[.slice A0_0 l0_0.length c0_0], .agg #[.slice A1_0 l1_0.length c1_0]] w fun e w' => e = .returned (.bool r) ∧ Below w.heap.size w w' := by
 have hu31 := Tryz.underlying31
 have HR0_0 := qa.mk hr0_0
 have HC0_0 := qa.mk hc0_0
 clear hr0_0 hc0_0
 have HR1_0 := qa.mk hr1_0
 have HC1_0 := qa.mk hc1_0
 clear hr1_0 hc1_0
 have HB := qa.mk (Below.refl w.heap.size w)
 have H : (if (l1_0.length : Int) > (l0_0.length : Int) then (some false) else (qv.l0 k (l1_0.length : Int) 0 l0_0 l1_0)) = some r := h
 clear h
 by_cases c3 : (l1_0.length : Int) > (l0_0.length : Int)
 ·rw [if_pos c3] at H
  have c3b0 : decide ((l0_0.length : Int) < (l1_0.length : Int)) = true := decide_eq_true c3
  have c3b1 : decide (l0_0.length < l1_0.length) = true := decide_eq_true (Int.ofNat_lt.mp c3)
  clear c3
  obtain rfl := Option.some.inj H
  go_enter Tryz.func58, Tryz.ntmps58
  go_wp2_with (first | ((with_reducible refine zl (N := 2) rfl ?_); refine zo ?hg (N := 2) ?hd (cs := #[.slice A0_0 l0_0.length c0_0]) (t := 31) ?hr ?_; (case hd => rfl); (case hg => rfl); (case hr => first | (go_simp; done) | (go_simp; rfl)); intro gb266 hg w4 hbox hb; have n0_ := qa.mk (qp cu hb); have n1_ := qa.mk (hbox); have n2_ := qa.mk ((by rw [hg]; exact (qr cu) : w.heap.size ≤ gb266)); have n3_ := qa.mk ((by rw [hg]; exact (qr cu) : w.heap.size ≤ gb266)); clear HB; have HB := n0_; have BK266 := n1_; have GW266 := n2_; have GE266 := n3_; clear n0_ n1_ n2_ n3_; clear hb hbox hg) | ((with_reducible refine zl (N := 3) rfl ?_); refine zo ?hg (N := 3) ?hd (cs := #[.slice A1_0 l1_0.length c1_0]) (t := 31) ?hr ?_; (case hd => rfl); (case hg => rfl); (case hr => first | (go_simp; done) | (go_simp; rfl)); intro gb267 hg w5 hbox hb; have n0_ := qa.mk (q9 (g := gb266) (o := .cells #[.slice A0_0 l0_0.length c0_0] 31 (0, 0)) um hb); have n1_ := qa.mk (qp ut hb); have n2_ := qa.mk (hbox); have n3_ := qa.mk ((by rw [hg]; exact (qr ut) : w.heap.size ≤ gb267)); have n4_ := qa.mk ((by rw [hg]; exact (qr ut) : w.heap.size ≤ gb267)); have n5_ := qa.mk ((by rw [hg]; exact Nat.ne_of_lt (zz (g := gb266) (o := .cells #[.slice A0_0 l0_0.length c0_0] 31 (0, 0)) um) : gb266 ≠ gb267)); have n6_ := qa.mk ((by rw [hg]; exact Nat.ne_of_gt (zz (g := gb266) (o := .cells #[.slice A0_0 l0_0.length c0_0] 31 (0, 0)) um) : gb267 ≠ gb266)); clear BK266; clear HB; have BK266 := n0_; have HB := n1_; have BK267 := n2_; have GW267 := n3_; have GE267 := n4_; have NB266_267 := n5_; have NB267_266 := n6_; clear n0_ n1_ n2_ n3_ n4_ n5_ n6_; clear hb hbox hg; have hnb6 := NB267_266.out; have hnc6 := NB266_267.out; have hcz7_0 : w5.cell? ⟨gb267, 0, none⟩ = some (.slice A1_0 l1_0.length c1_0) := (ql BK267.out 0).trans rfl; have hfz7_0 := qo BK267.out 0; have hcz8_0 : w5.cell? ⟨gb266, 0, none⟩ = some (.slice A0_0 l0_0.length c0_0) := (ql BK266.out 0).trans rfl; have hfz8_0 := qo BK266.out 0))
  go_ret
  exact ⟨by first | rfl | (simp [qu, qt] <;> rfl) | (simp [*, qu, qt] <;> rfl), by repeat (first | (with_reducible first | exact HB.out | apply qc | apply qb | apply qd | refine qe ?_ GE266.out | refine qe ?_ GE267.out) | exact HB.out)⟩
 ·rw [if_neg c3] at H
  have c3b0 : decide ((l0_0.length : Int) < (l1_0.length : Int)) = false := decide_eq_false c3
  have c3b1 : decide (l0_0.length < l1_0.length) = false := decide_eq_false (fun h => c3 (Int.ofNat_lt.mpr h))
  clear c3
  have H' := qa.mk H
  clear H
  go_enter Tryz.func58, Tryz.ntmps58
  go_wp2_with (first | ((with_reducible refine zl (N := 2) rfl ?_); refine zo ?hg (N := 2) ?hd (cs := #[.slice A0_0 l0_0.length c0_0]) (t := 31) ?hr ?_; (case hd => rfl); (case hg => rfl); (case hr => first | (go_simp; done) | (go_simp; rfl)); intro gb266 hg w9 hbox hb; have n0_ := qa.mk (qp cu hb); have n1_ := qa.mk (hbox); have n2_ := qa.mk ((by rw [hg]; exact (qr cu) : w.heap.size ≤ gb266)); have n3_ := qa.mk ((by rw [hg]; exact (qr cu) : w.heap.size ≤ gb266)); clear HB; have HB := n0_; have BK266 := n1_; have GW266 := n2_; have GE266 := n3_; clear n0_ n1_ n2_ n3_; clear hb hbox hg) | ((with_reducible refine zl (N := 3) rfl ?_); refine zo ?hg (N := 3) ?hd (cs := #[.slice A1_0 l1_0.length c1_0]) (t := 31) ?hr ?_; (case hd => rfl); (case hg => rfl); (case hr => first | (go_simp; done) | (go_simp; rfl)); intro gb267 hg w10 hbox hb; have n0_ := qa.mk (q9 (g := gb266) (o := .cells #[.slice A0_0 l0_0.length c0_0] 31 (0, 0)) um hb); have n1_ := qa.mk (qp ut hb); have n2_ := qa.mk (hbox); have n3_ := qa.mk ((by rw [hg]; exact (qr ut) : w.heap.size ≤ gb267)); have n4_ := qa.mk ((by rw [hg]; exact (qr ut) : w.heap.size ≤ gb267)); have n5_ := qa.mk ((by rw [hg]; exact Nat.ne_of_lt (zz (g := gb266) (o := .cells #[.slice A0_0 l0_0.length c0_0] 31 (0, 0)) um) : gb266 ≠ gb267)); have n6_ := qa.mk ((by rw [hg]; exact Nat.ne_of_gt (zz (g := gb266) (o := .cells #[.slice A0_0 l0_0.length c0_0] 31 (0, 0)) um) : gb267 ≠ gb266)); clear BK266; clear HB; have BK266 := n0_; have HB := n1_; have BK267 := n2_; have GW267 := n3_; have GE267 := n4_; have NB266_267 := n5_; have NB267_266 := n6_; clear n0_ n1_ n2_ n3_ n4_ n5_ n6_; clear hb hbox hg; have hnb11 := NB267_266.out; have hnc11 := NB266_267.out; have hcz12_0 : w10.cell? ⟨gb267, 0, none⟩ = some (.slice A1_0 l1_0.length c1_0) := (ql BK267.out 0).trans rfl; have hfz12_0 := qo BK267.out 0; have hcz13_0 : w10.cell? ⟨gb266, 0, none⟩ = some (.slice A0_0 l0_0.length c0_0) := (ql BK266.out 0).trans rfl; have hfz13_0 := qo BK266.out 0))
  go_loopg [16] k (fun kq v16 w' => ∃ (x16_1 : Int), v16 = .int .i64 x16_1 ∧ qa (qv.l0 kq (l1_0.length : Int) x16_1 l0_0 l1_0 = some r) ∧ qa (kq ≤ k) ∧ qa (w'.heap[gb266]? = some (.cells #[(.slice A0_0 l0_0.length c0_0)] 31 (0, 0))) ∧ qa (w'.heap[gb267]? = some (.cells #[(.slice A1_0 l1_0.length c1_0)] 31 (0, 0))) ∧ qa (Below w.heap.size w w'))
  case atStart => exact ⟨(0), yf, H', ⟨Nat.le_refl _⟩, ⟨by (with_reducible repeat (first | refine qg ?_ _ | refine qi ?_ | refine qf ?_ _)); exact BK266.out⟩, ⟨by (with_reducible repeat (first | refine qg ?_ _ | refine qi ?_ | refine qf ?_ _)); exact BK267.out⟩, ⟨by repeat (first | (with_reducible first | exact HB.out | apply qc | apply qb | apply qd | refine qe ?_ GE266.out | refine qe ?_ GE267.out) | exact HB.out)⟩⟩
  case round =>
   clear H'
   (try clear c1); (try clear p2); (try clear c3); (try clear c3b0); (try clear c3b1); (try clear c5); (try clear c6); (try clear c11); (try clear hcz12_0); (try clear hcz13_0); (try clear hcz7_0); try clear hcz8_0
   (try clear hfz12_0); (try clear hfz13_0); (try clear hfz7_0); try clear hfz8_0
   obtain ⟨x16_1, rfl, HA, HK1, BK266, BK267, HB⟩ := hrel
   cases gk with
   | zero => exact absurd HA.out (by simp [qv.l0])
   | succ k1 =>
    have H := HA.out
    clear HA
    simp only [qv.l0] at H
    by_cases c14 : x16_1 < (l1_0.length : Int)
    ·rw [if_pos c14] at H
     have c14b0 : decide (x16_1 < (l1_0.length : Int)) = true := decide_eq_true c14
     clear c14
     by_cases c15 : 0 ≤ x16_1
     ·rw [if_pos c15] at H
      have c15b0 : decide (0 ≤ x16_1) = true := decide_eq_true c15
      clear c15
      by_cases c16 : x16_1 < (l0_0.length : Int)
      ·rw [if_pos c16] at H
       have c16b0 : decide (x16_1 < (l0_0.length : Int)) = true := decide_eq_true c16
       clear c16
       by_cases c17 : x16_1 < (l1_0.length : Int)
       ·rw [if_pos c17] at H
        have c17b0 : decide (x16_1 < (l1_0.length : Int)) = true := decide_eq_true c17
        clear c17
        replace H := Option.bind_eq_some_iff.mp H
        obtain ⟨t270, A180, H⟩ := H
        replace H : (if t270 = true then (qv.l0 k1 (l1_0.length : Int) (wrap64 (x16_1 + 1)) l0_0 l1_0) else (some false)) = some r := H
        have A18 := qa.mk A180
        clear A180
        by_cases c19 : t270 = true
        ·subst c19
         have H1 : (qv.l0 k1 (l1_0.length : Int) (wrap64 (x16_1 + 1)) l0_0 l1_0) = some r := by rw [if_pos rfl] at H; exact H
         clear H
         have H := H1
         clear H1
         have H' := qa.mk H
         clear H
         try go_wp2
         have n0_ := qa.mk (qi BK266.out)
         have n1_ := qa.mk (qi BK267.out)
         have n2_ := qa.mk (qd HB.out)
         clear BK266
         clear BK267
         clear HB
         have BK266 := n0_
         have BK267 := n1_
         have HB := n2_
         clear n0_ n1_ n2_
         have p268 : 0 ≤ (x16_1 : Int) := of_decide_eq_true cz
         have q268 : x16_1 < (l0_0.length : Int) := of_decide_eq_true cz
         obtain ⟨ad268, A268_0, c268_0, e268, hx268_0, hl268_0, hi268_0⟩ := at_L5 HR0_0.out x16_1 p268 q268
         have hw268_0 := hx268_0
         cases e268
         replace hx268_0 := (HB.out.cell (World.block_lt_of_cell? w _ hx268_0)).trans hx268_0
         have HR268_0 := qa.mk hi268_0
         have HC268_0 := qa.mk hl268_0
         clear hi268_0 hl268_0
         replace p268 := eq_true p268
         replace q268 := eq_true q268
         have p269 : 0 ≤ (x16_1 : Int) := of_decide_eq_true cz
         have q269 : x16_1 < (l1_0.length : Int) := of_decide_eq_true cz
         obtain ⟨ad269, A269_0, c269_0, e269, hx269_0, hl269_0, hi269_0⟩ := at_L5 HR1_0.out x16_1 p269 q269
         have hw269_0 := hx269_0
         cases e269
         replace hx269_0 := (HB.out.cell (World.block_lt_of_cell? w _ hx269_0)).trans hx269_0
         have HR269_0 := qa.mk hi269_0
         have HC269_0 := qa.mk hl269_0
         clear hi269_0 hl269_0
         replace p269 := eq_true p269
         replace q269 := eq_true q269
         refine start_ (n := 12) (S := fun w' => w'.cell? ⟨gb266, 0, none⟩ = some (.slice (some ad268) l0_0.length c0_0) ∧ w'.cell? ⟨gb267, 0, none⟩ = some (.slice (some ad269) l1_0.length c1_0) ∧ w'.cell? (ad268.add (x16_1).toNat) = some (.slice A268_0 (xx l0_0 x16_1).length c268_0) ∧ w'.cell? (ad269.add (x16_1).toNat) = some (.slice A269_0 (xx l1_0 x16_1).length c269_0)) (ds := []) #[false, false, false, false, false, false, false, false, false, false, false, false] yj rfl rfl ⟨(ql BK266.out 0).trans rfl, (ql BK267.out 0).trans rfl, ((HB.out.cell (World.block_lt_of_cell? w _ hw268_0)).trans hw268_0), ((HB.out.cell (World.block_lt_of_cell? w _ hw269_0)).trans hw269_0)⟩ (fun hHeld => ?_); refine with_tabW qv.tab6 qv.bits6 (fun HT_ HW_ => ?_)
         generalize wr.drew = w20 at BK266 BK267 HB HR268_0 HR269_0 hx268_0 hx269_0 hHeld ⊢
         refine ko (i := 0) (N := some 19) (v := ?_) (a' := ?_) #[true, false, false, false, false, false, false, false, false, false, false, false] rfl rfl (xw HT_.out yj) (fun _ _ _ h => h) (Or.inl ⟨by rfl, ?_⟩) ?_ ?_
         rotate_left
         ·intro w'
          go_simp
          with_reducible rfl
         rotate_left
         ·simp only [Act.put, List.setIfInBounds_toArray, List.set_cons_zero, List.set_cons_succ, zm, zq]
          rfl
         refine ko (i := 2) (N := some 21) (v := ?_) (a' := ?_) #[true, false, true, false, false, false, false, false, false, false, false, false] rfl rfl (xw HT_.out yj) (fun _ _ _ h => h) (Or.inl ⟨by rfl, ?_⟩) ?_ ?_
         rotate_left
         ·intro w'
          go_simp
          with_reducible rfl
         rotate_left
         ·simp only [Act.put, List.setIfInBounds_toArray, List.set_cons_zero, List.set_cons_succ, zm, zq]
          rfl
         refine ko (i := 5) (N := some 24) (v := ?_) (a' := ?_) #[true, false, true, false, false, true, false, false, false, false, false, false] rfl rfl (xw HT_.out yj) (fun _ _ _ h => h) (Or.inl ⟨by rfl, ?_⟩) ?_ ?_
         rotate_left
         ·intro w'
          go_simp
          with_reducible rfl
         rotate_left
         ·simp only [Act.put, List.setIfInBounds_toArray, List.set_cons_zero, List.set_cons_succ, zm, zq]
          rfl
         refine ko (i := 7) (N := some 26) (v := ?_) (a' := ?_) #[true, false, true, false, false, true, false, true, false, false, false, false] rfl rfl (xw HT_.out yj) (fun _ _ _ h => h) (Or.inl ⟨by rfl, ?_⟩) ?_ ?_
         rotate_left
         ·intro w'
          go_simp
          with_reducible rfl
         rotate_left
         ·simp only [Act.put, List.setIfInBounds_toArray, List.set_cons_zero, List.set_cons_succ, zm, zq]
          rfl
         refine jb (i := 1) (N := some 20) (v := ?_) (a' := ?_) #[true, true, true, false, false, true, false, true, false, false, false, false] rfl rfl (kf HT_.out HW_.out yj) (fun _ _ _ h => h) (Or.inl ⟨by rfl, ?_⟩) hHeld ?_ ?_
         rotate_left
         ·rintro w' ⟨s0, s1, s2, s3⟩
          go_simp
          with_reducible rfl
         rotate_left
         ·simp only [Act.put, List.setIfInBounds_toArray, List.set_cons_zero, List.set_cons_succ, zm, zq]
          rfl
         refine ko (i := 3) (N := some 22) (v := ?_) (a' := ?_) #[true, true, true, true, false, true, false, true, false, false, false, false] rfl rfl (xw HT_.out yj) (fun _ _ _ h => h) (Or.inl ⟨by rfl, ?_⟩) ?_ ?_
         rotate_left
         ·intro w'
          go_simp
          with_reducible rfl
         rotate_left
         ·simp only [Act.put, List.setIfInBounds_toArray, List.set_cons_zero, List.set_cons_succ, zm, zq]
          rfl
         refine jb (i := 4) (N := some 23) (v := ?_) (a' := ?_) #[true, true, true, true, true, true, false, true, false, false, false, false] rfl rfl (kf HT_.out HW_.out yj) (fun _ _ _ h => h) (Or.inl ⟨by rfl, ?_⟩) hHeld ?_ ?_
         rotate_left
         ·rintro w' ⟨s0, s1, s2, s3⟩
          go_simp
          with_reducible rfl
         rotate_left
         ·simp only [Act.put, List.setIfInBounds_toArray, List.set_cons_zero, List.set_cons_succ, zm, zq]
          rfl
         refine jb (i := 6) (N := some 25) (v := ?_) (a' := ?_) #[true, true, true, true, true, true, true, true, false, false, false, false] rfl rfl (kf HT_.out HW_.out yj) (fun _ _ _ h => h) (Or.inl ⟨by rfl, ?_⟩) hHeld ?_ ?_
         rotate_left
         ·rintro w' ⟨s0, s1, s2, s3⟩
          go_simp
          with_reducible rfl
         rotate_left
         ·simp only [Act.put, List.setIfInBounds_toArray, List.set_cons_zero, List.set_cons_succ, zm, zq]
          rfl
         refine ko (i := 8) (N := some 27) (v := ?_) (a' := ?_) #[true, true, true, true, true, true, true, true, true, false, false, false] rfl rfl (xw HT_.out yj) (fun _ _ _ h => h) (Or.inl ⟨by rfl, ?_⟩) ?_ ?_
         rotate_left
         ·intro w'
          go_simp
          with_reducible rfl
         rotate_left
         ·simp only [Act.put, List.setIfInBounds_toArray, List.set_cons_zero, List.set_cons_succ, zm, zq]
          rfl
         refine jb (i := 9) (N := some 28) (v := ?_) (a' := ?_) #[true, true, true, true, true, true, true, true, true, true, false, false] rfl rfl (kf HT_.out HW_.out yj) (fun _ _ _ h => h) (Or.inl ⟨by rfl, ?_⟩) hHeld ?_ ?_
         rotate_left
         ·rintro w' ⟨s0, s1, s2, s3⟩
          go_simp
          with_reducible rfl
         rotate_left
         ·simp only [Act.put, List.setIfInBounds_toArray, List.set_cons_zero, List.set_cons_succ, zm, zq]
          rfl
         refine one_ (i := 10) (N := some 29) #[true, true, true, true, true, true, true, true, true, true, true, false] rfl rfl (je HT_.out yj) (by decide) (fun K hK => ?_)
         refine goes_ Tryz.func92 yj rfl #[.slice A268_0 (xx l0_0 x16_1).length c268_0, .slice A269_0 (xx l1_0 x16_1).length c269_0] (by rfl) rfl rfl yc ?_
         with_reducible refine (q8.calls k1 _ _ (xx l0_0 x16_1) _ _ (xx l1_0 x16_1) true _ ?side1 ?side2 ?side3 ?side4 A18.out).mono ?_
         (case side1 => repeat (first | exact (Kd.ki HR268_0.out HB.out) | (with_reducible refine Kd.kr ?_ _) | (with_reducible refine Kd.ks ?_ _) | (with_reducible refine Kd.ky ?_)))
         (case side2 => exact HC268_0.out)
         (case side3 => repeat (first | exact (Kd.ki HR269_0.out HB.out) | (with_reducible refine Kd.kr ?_ _) | (with_reducible refine Kd.ks ?_ _) | (with_reducible refine Kd.ky ?_)))
         (case side4 => exact HC269_0.out)
         rintro e w21 ⟨rfl, hb⟩
         refine ⟨_, rfl, ?_⟩
         have n0_ := qa.mk (q9 (g := gb266) (o := .cells #[.slice (some ad268) l0_0.length c0_0] 31 (0, 0)) um hb)
         have n1_ := qa.mk (q9 (g := gb267) (o := .cells #[.slice (some ad269) l1_0.length c1_0] 31 (0, 0)) (by (with_reducible repeat (first | refine qg ?_ _ | refine qi ?_ | refine qf ?_ _)); exact BK267.out) hb)
         have n2_ := qa.mk (qp cam hb)
         clear BK266
         clear BK267
         clear HB
         have BK266 := n0_
         have BK267 := n1_
         have HB := n2_
         clear n0_ n1_ n2_
         (try clear hb)
         (try clear hb2)
         (try clear hk)
         (try clear hi)
         refine hK.out _ _ ⟨(ql BK266.out 0).trans rfl, (ql BK267.out 0).trans rfl, ((HB.out.cell (World.block_lt_of_cell? w _ hw268_0)).trans hw268_0), ((HB.out.cell (World.block_lt_of_cell? w _ hw269_0)).trans hw269_0)⟩ (fun hHeld => ?_)
         clear hK K
         refine norm_ (a' := ?_) ?_ ?_
         rotate_left
         ·show Act.put _ (some 29) _ = _
          simp only [Act.put, List.setIfInBounds_toArray, List.set_cons_zero, List.set_cons_succ, zm, zq]
          rfl
         refine ko (i := 11) (N := some 30) (v := ?_) (a' := ?_) #[true, true, true, true, true, true, true, true, true, true, true, true] rfl rfl (xw HT_.out yj) (fun _ _ _ h => h) (Or.inl ⟨by rfl, ?_⟩) ?_ ?_
         rotate_left
         ·intro w'
          go_simp
          with_reducible rfl
         rotate_left
         ·simp only [Act.put, List.setIfInBounds_toArray, List.set_cons_zero, List.set_cons_succ, zm, zq]
          rfl
         refine done_ (done_of HT_.out yj) ?_
         try go_wp2
         go_roundg k1
         case measure => have := HK1.out; omega
         case rel => exact ⟨(wrap64 (x16_1 + 1)), yf, H', ⟨by have := HK1.out; omega⟩, ⟨by (with_reducible repeat (first | refine qg ?_ _ | refine qi ?_ | refine qf ?_ _)); exact BK266.out⟩, ⟨by (with_reducible repeat (first | refine qg ?_ _ | refine qi ?_ | refine qf ?_ _)); exact BK267.out⟩, ⟨by repeat (first | (with_reducible first | exact HB.out | apply qc | apply qb | apply qd | refine qe ?_ GE266.out | refine qe ?_ GE267.out) | exact HB.out)⟩⟩
        ·replace c19 := Bool.eq_false_iff.mpr c19
         subst c19
         have H1 : (some false) = some r := by rw [if_neg (show ¬ (false = true) by decide)] at H; exact H
         clear H
         have H := H1
         clear H1
         obtain rfl := Option.some.inj H
         try go_wp2
         have n0_ := qa.mk (qi BK266.out)
         have n1_ := qa.mk (qi BK267.out)
         have n2_ := qa.mk (qd HB.out)
         clear BK266
         clear BK267
         clear HB
         have BK266 := n0_
         have BK267 := n1_
         have HB := n2_
         clear n0_ n1_ n2_
         have p268 : 0 ≤ (x16_1 : Int) := of_decide_eq_true cz
         have q268 : x16_1 < (l0_0.length : Int) := of_decide_eq_true cz
         obtain ⟨ad268, A268_0, c268_0, e268, hx268_0, hl268_0, hi268_0⟩ := at_L5 HR0_0.out x16_1 p268 q268
         have hw268_0 := hx268_0
         cases e268
         replace hx268_0 := (HB.out.cell (World.block_lt_of_cell? w _ hx268_0)).trans hx268_0
         have HR268_0 := qa.mk hi268_0
         have HC268_0 := qa.mk hl268_0
         clear hi268_0 hl268_0
         replace p268 := eq_true p268
         replace q268 := eq_true q268
         have p269 : 0 ≤ (x16_1 : Int) := of_decide_eq_true cz
         have q269 : x16_1 < (l1_0.length : Int) := of_decide_eq_true cz
         obtain ⟨ad269, A269_0, c269_0, e269, hx269_0, hl269_0, hi269_0⟩ := at_L5 HR1_0.out x16_1 p269 q269
         have hw269_0 := hx269_0
         cases e269
         replace hx269_0 := (HB.out.cell (World.block_lt_of_cell? w _ hx269_0)).trans hx269_0
         have HR269_0 := qa.mk hi269_0
         have HC269_0 := qa.mk hl269_0
         clear hi269_0 hl269_0
         replace p269 := eq_true p269
         replace q269 := eq_true q269
         refine start_ (n := 12) (S := fun w' => w'.cell? ⟨gb266, 0, none⟩ = some (.slice (some ad268) l0_0.length c0_0) ∧ w'.cell? ⟨gb267, 0, none⟩ = some (.slice (some ad269) l1_0.length c1_0) ∧ w'.cell? (ad268.add (x16_1).toNat) = some (.slice A268_0 (xx l0_0 x16_1).length c268_0) ∧ w'.cell? (ad269.add (x16_1).toNat) = some (.slice A269_0 (xx l1_0 x16_1).length c269_0)) (ds := []) #[false, false, false, false, false, false, false, false, false, false, false, false] yj rfl rfl ⟨(ql BK266.out 0).trans rfl, (ql BK267.out 0).trans rfl, ((HB.out.cell (World.block_lt_of_cell? w _ hw268_0)).trans hw268_0), ((HB.out.cell (World.block_lt_of_cell? w _ hw269_0)).trans hw269_0)⟩ (fun hHeld => ?_); refine with_tabW qv.tab6 qv.bits6 (fun HT_ HW_ => ?_)
         generalize wr.drew = w22 at BK266 BK267 HB HR268_0 HR269_0 hx268_0 hx269_0 hHeld ⊢
         refine ko (i := 0) (N := some 19) (v := ?_) (a' := ?_) #[true, false, false, false, false, false, false, false, false, false, false, false] rfl rfl (xw HT_.out yj) (fun _ _ _ h => h) (Or.inl ⟨by rfl, ?_⟩) ?_ ?_
         rotate_left
         ·intro w'
          go_simp
          with_reducible rfl
         rotate_left
         ·simp only [Act.put, List.setIfInBounds_toArray, List.set_cons_zero, List.set_cons_succ, zm, zq]
          rfl
         refine ko (i := 2) (N := some 21) (v := ?_) (a' := ?_) #[true, false, true, false, false, false, false, false, false, false, false, false] rfl rfl (xw HT_.out yj) (fun _ _ _ h => h) (Or.inl ⟨by rfl, ?_⟩) ?_ ?_
         rotate_left
         ·intro w'
          go_simp
          with_reducible rfl
         rotate_left
         ·simp only [Act.put, List.setIfInBounds_toArray, List.set_cons_zero, List.set_cons_succ, zm, zq]
          rfl
         refine ko (i := 5) (N := some 24) (v := ?_) (a' := ?_) #[true, false, true, false, false, true, false, false, false, false, false, false] rfl rfl (xw HT_.out yj) (fun _ _ _ h => h) (Or.inl ⟨by rfl, ?_⟩) ?_ ?_
         rotate_left
         ·intro w'
          go_simp
          with_reducible rfl
         rotate_left
         ·simp only [Act.put, List.setIfInBounds_toArray, List.set_cons_zero, List.set_cons_succ, zm, zq]
          rfl
         refine ko (i := 7) (N := some 26) (v := ?_) (a' := ?_) #[true, false, true, false, false, true, false, true, false, false, false, false] rfl rfl (xw HT_.out yj) (fun _ _ _ h => h) (Or.inl ⟨by rfl, ?_⟩) ?_ ?_
         rotate_left
         ·intro w'
          go_simp
          with_reducible rfl
         rotate_left
         ·simp only [Act.put, List.setIfInBounds_toArray, List.set_cons_zero, List.set_cons_succ, zm, zq]
          rfl
         refine jb (i := 1) (N := some 20) (v := ?_) (a' := ?_) #[true, true, true, false, false, true, false, true, false, false, false, false] rfl rfl (kf HT_.out HW_.out yj) (fun _ _ _ h => h) (Or.inl ⟨by rfl, ?_⟩) hHeld ?_ ?_
         rotate_left
         ·rintro w' ⟨s0, s1, s2, s3⟩
          go_simp
          with_reducible rfl
         rotate_left
         ·simp only [Act.put, List.setIfInBounds_toArray, List.set_cons_zero, List.set_cons_succ, zm, zq]
          rfl
         refine ko (i := 3) (N := some 22) (v := ?_) (a' := ?_) #[true, true, true, true, false, true, false, true, false, false, false, false] rfl rfl (xw HT_.out yj) (fun _ _ _ h => h) (Or.inl ⟨by rfl, ?_⟩) ?_ ?_
         rotate_left
         ·intro w'
          go_simp
          with_reducible rfl
         rotate_left
         ·simp only [Act.put, List.setIfInBounds_toArray, List.set_cons_zero, List.set_cons_succ, zm, zq]
          rfl
         refine jb (i := 4) (N := some 23) (v := ?_) (a' := ?_) #[true, true, true, true, true, true, false, true, false, false, false, false] rfl rfl (kf HT_.out HW_.out yj) (fun _ _ _ h => h) (Or.inl ⟨by rfl, ?_⟩) hHeld ?_ ?_
         rotate_left
         ·rintro w' ⟨s0, s1, s2, s3⟩
          go_simp
          with_reducible rfl
         rotate_left
         ·simp only [Act.put, List.setIfInBounds_toArray, List.set_cons_zero, List.set_cons_succ, zm, zq]
          rfl
         refine jb (i := 6) (N := some 25) (v := ?_) (a' := ?_) #[true, true, true, true, true, true, true, true, false, false, false, false] rfl rfl (kf HT_.out HW_.out yj) (fun _ _ _ h => h) (Or.inl ⟨by rfl, ?_⟩) hHeld ?_ ?_
         rotate_left
         ·rintro w' ⟨s0, s1, s2, s3⟩
          go_simp
          with_reducible rfl
         rotate_left
         ·simp only [Act.put, List.setIfInBounds_toArray, List.set_cons_zero, List.set_cons_succ, zm, zq]
          rfl
         refine ko (i := 8) (N := some 27) (v := ?_) (a' := ?_) #[true, true, true, true, true, true, true, true, true, false, false, false] rfl rfl (xw HT_.out yj) (fun _ _ _ h => h) (Or.inl ⟨by rfl, ?_⟩) ?_ ?_
         rotate_left
         ·intro w'
          go_simp
          with_reducible rfl
         rotate_left
         ·simp only [Act.put, List.setIfInBounds_toArray, List.set_cons_zero, List.set_cons_succ, zm, zq]
          rfl
         refine jb (i := 9) (N := some 28) (v := ?_) (a' := ?_) #[true, true, true, true, true, true, true, true, true, true, false, false] rfl rfl (kf HT_.out HW_.out yj) (fun _ _ _ h => h) (Or.inl ⟨by rfl, ?_⟩) hHeld ?_ ?_
         rotate_left
         ·rintro w' ⟨s0, s1, s2, s3⟩
          go_simp
          with_reducible rfl
         rotate_left
         ·simp only [Act.put, List.setIfInBounds_toArray, List.set_cons_zero, List.set_cons_succ, zm, zq]
          rfl
         refine one_ (i := 10) (N := some 29) #[true, true, true, true, true, true, true, true, true, true, true, false] rfl rfl (je HT_.out yj) (by decide) (fun K hK => ?_)
         refine goes_ Tryz.func92 yj rfl #[.slice A268_0 (xx l0_0 x16_1).length c268_0, .slice A269_0 (xx l1_0 x16_1).length c269_0] (by rfl) rfl rfl yc ?_
         with_reducible refine (q8.calls k1 _ _ (xx l0_0 x16_1) _ _ (xx l1_0 x16_1) false _ ?side1 ?side2 ?side3 ?side4 A18.out).mono ?_
         (case side1 => repeat (first | exact (Kd.ki HR268_0.out HB.out) | (with_reducible refine Kd.kr ?_ _) | (with_reducible refine Kd.ks ?_ _) | (with_reducible refine Kd.ky ?_)))
         (case side2 => exact HC268_0.out)
         (case side3 => repeat (first | exact (Kd.ki HR269_0.out HB.out) | (with_reducible refine Kd.kr ?_ _) | (with_reducible refine Kd.ks ?_ _) | (with_reducible refine Kd.ky ?_)))
         (case side4 => exact HC269_0.out)
         rintro e w23 ⟨rfl, hb⟩
         refine ⟨_, rfl, ?_⟩
         have n0_ := qa.mk (q9 (g := gb266) (o := .cells #[.slice (some ad268) l0_0.length c0_0] 31 (0, 0)) um hb)
         have n1_ := qa.mk (q9 (g := gb267) (o := .cells #[.slice (some ad269) l1_0.length c1_0] 31 (0, 0)) (by (with_reducible repeat (first | refine qg ?_ _ | refine qi ?_ | refine qf ?_ _)); exact BK267.out) hb)
         have n2_ := qa.mk (qp cam hb)
         clear BK266
         clear BK267
         clear HB
         have BK266 := n0_
         have BK267 := n1_
         have HB := n2_
         clear n0_ n1_ n2_
         (try clear hb)
         (try clear hb2)
         (try clear hk)
         (try clear hi)
         refine hK.out _ _ ⟨(ql BK266.out 0).trans rfl, (ql BK267.out 0).trans rfl, ((HB.out.cell (World.block_lt_of_cell? w _ hw268_0)).trans hw268_0), ((HB.out.cell (World.block_lt_of_cell? w _ hw269_0)).trans hw269_0)⟩ (fun hHeld => ?_)
         clear hK K
         refine norm_ (a' := ?_) ?_ ?_
         rotate_left
         ·show Act.put _ (some 29) _ = _
          simp only [Act.put, List.setIfInBounds_toArray, List.set_cons_zero, List.set_cons_succ, zm, zq]
          rfl
         refine ko (i := 11) (N := some 30) (v := ?_) (a' := ?_) #[true, true, true, true, true, true, true, true, true, true, true, true] rfl rfl (xw HT_.out yj) (fun _ _ _ h => h) (Or.inl ⟨by rfl, ?_⟩) ?_ ?_
         rotate_left
         ·intro w'
          go_simp
          with_reducible rfl
         rotate_left
         ·simp only [Act.put, List.setIfInBounds_toArray, List.set_cons_zero, List.set_cons_succ, zm, zq]
          rfl
         refine done_ (done_of HT_.out yj) ?_
         try go_wp2
         go_ret
         exact ⟨by first | rfl | (simp [qu, qt] <;> rfl) | (simp [*, qu, qt] <;> rfl), by repeat (first | (with_reducible first | exact HB.out | apply qc | apply qb | apply qd | refine qe ?_ GE266.out | refine qe ?_ GE267.out) | exact HB.out)⟩
       ·rw [if_neg c17] at H
        exact absurd H yt
      ·rw [if_neg c16] at H
       exact absurd H yt
     ·rw [if_neg c15] at H
      exact absurd H yt
    ·rw [if_neg c14] at H
     have c14b0 : decide (x16_1 < (l1_0.length : Int)) = false := decide_eq_false c14
     clear c14
     obtain rfl := Option.some.inj H
     go_wp2
     go_ret
     exact ⟨by first | rfl | (simp [qu, qt] <;> rfl) | (simp [*, qu, qt] <;> rfl), by repeat (first | (with_reducible first | exact HB.out | apply qc | apply qb | apply qd | refine qe ?_ GE266.out | refine qe ?_ GE267.out) | exact HB.out)⟩
end Go.Proofs.YthdoohfdminfgaaGreatDoor.C
end
section
namespace Go.Proofs.YthdoohfdminfgaaGreatDoor.C
open Go.RowKit Go.Proofs.YthdoohfdminfgaaGreatDoorW.PrintWords Go.Proofs.YthdoohfdminfgaaGreatDoorW.PrintLast Go.Proofs.YthdoohfdminfgaaGreatDoorW.PrintMore
attribute [local go_sem] xa z7 xq xr zx zy xc z8
set_option linter.unusedVariables false
set_option linter.unusedSimpArgs false
def xu.f (k : Nat) (l0_0 : List (List (S40))) (l1_0 : List (List (S40))) : Option (Bool) := if (l0_0.length : Int) = (l1_0.length : Int) then ((qv.f k l0_0 l1_0).bind fun t273 => (some t273)) else (some false)
theorem xu.mono : ∀ a0 a1 k, LeO (xu.f k a0 a1) (xu.f (k + 1) a0 a1) := by
 intro a0 a1 k
 unfold xu.f
 repeat' first
   | (with_reducible exact qv.mono _ _ _)
   | (with_reducible exact LeO.refl _)
   | (with_reducible exact LeO.none _)
   | (with_reducible refine LeO.ite ?_ ?_)
   | (with_reducible refine LeO.bind ?_ (fun _ => ?_))
set_option maxHeartbeats 8000000 in
set_option maxRecDepth 100000 in
theorem xu.calls (k : Nat) (A0_0 : Option Addr) (c0_0 : Nat) (l0_0 : List (List (S40))) (A1_0 : Option Addr) (c1_0 : Nat) (l1_0 : List (List (S40))) (r : Bool) (w : World) (hr0_0 : Kd.C (Kd.slice 40 k40) w A0_0 l0_0.length l0_0) (hc0_0 : l0_0.length ≤ c0_0) (hr1_0 : Kd.C (Kd.slice 40 k40) w A1_0 l1_0.length l1_0) (hc1_0 : l1_0.length ≤ c1_0) (h : xu.f k l0_0 l1_0 = some r) :
  Calls Tryz.prog 26 #[.agg #[.slice A0_0 l0_0.length c0_0], .agg #[.slice A1_0 l1_0.length c1_0]] w fun e w' => e = .returned (.bool r) ∧ Below w.heap.size w w' := by
 have hu31 := Tryz.underlying31
 have HR0_0 := qa.mk hr0_0
 have HC0_0 := qa.mk hc0_0
 clear hr0_0 hc0_0
 have HR1_0 := qa.mk hr1_0
 have HC1_0 := qa.mk hc1_0
 clear hr1_0 hc1_0
 have HB := qa.mk (Below.refl w.heap.size w)
 have H : (if (l0_0.length : Int) = (l1_0.length : Int) then ((qv.f k l0_0 l1_0).bind fun t273 => (some t273)) else (some false)) = some r := h
 clear h
 by_cases c3 : (l0_0.length : Int) = (l1_0.length : Int)
 ·rw [if_pos c3] at H
  have c3b0 : ((l0_0.length : Int) == (l1_0.length : Int)) = true := beq_iff_eq.mpr c3
  have c3b1 : ((l0_0.length : Int) != (l1_0.length : Int)) = false := bne_eq_false_iff_eq.mpr c3
  have c3b2 : (l0_0.length == l1_0.length) = true := by first | simpa using c3 | (simp at c3 ⊢; omega)
  clear c3
  replace H := Option.bind_eq_some_iff.mp H
  obtain ⟨t273, A40, H⟩ := H
  replace H : (some t273) = some r := H
  have A4 := qa.mk A40
  clear A40
  obtain rfl := Option.some.inj H
  go_enter Tryz.func26, Tryz.ntmps26
  go_wp2_with (first | ((with_reducible refine zl (N := 2) rfl ?_); refine zo ?hg (N := 2) ?hd (cs := #[.slice A0_0 l0_0.length c0_0]) (t := 31) ?hr ?_; (case hd => rfl); (case hg => rfl); (case hr => first | (go_simp; done) | (go_simp; rfl)); intro gb271 hg w5 hbox hb; have n0_ := qa.mk (qp cu hb); have n1_ := qa.mk (hbox); have n2_ := qa.mk ((by rw [hg]; exact (qr cu) : w.heap.size ≤ gb271)); have n3_ := qa.mk ((by rw [hg]; exact (qr cu) : w.heap.size ≤ gb271)); clear HB; have HB := n0_; have BK271 := n1_; have GW271 := n2_; have GE271 := n3_; clear n0_ n1_ n2_ n3_; clear hb hbox hg) | ((with_reducible refine zl (N := 3) rfl ?_); refine zo ?hg (N := 3) ?hd (cs := #[.slice A1_0 l1_0.length c1_0]) (t := 31) ?hr ?_; (case hd => rfl); (case hg => rfl); (case hr => first | (go_simp; done) | (go_simp; rfl)); intro gb272 hg w6 hbox hb; have n0_ := qa.mk (q9 (g := gb271) (o := .cells #[.slice A0_0 l0_0.length c0_0] 31 (0, 0)) fe hb); have n1_ := qa.mk (qp uq hb); have n2_ := qa.mk (hbox); have n3_ := qa.mk ((by rw [hg]; exact (qr uq) : w.heap.size ≤ gb272)); have n4_ := qa.mk ((by rw [hg]; exact (qr uq) : w.heap.size ≤ gb272)); have n5_ := qa.mk ((by rw [hg]; exact Nat.ne_of_lt (zz (g := gb271) (o := .cells #[.slice A0_0 l0_0.length c0_0] 31 (0, 0)) fe) : gb271 ≠ gb272)); have n6_ := qa.mk ((by rw [hg]; exact Nat.ne_of_gt (zz (g := gb271) (o := .cells #[.slice A0_0 l0_0.length c0_0] 31 (0, 0)) fe) : gb272 ≠ gb271)); clear BK271; clear HB; have BK271 := n0_; have HB := n1_; have BK272 := n2_; have GW272 := n3_; have GE272 := n4_; have NB271_272 := n5_; have NB272_271 := n6_; clear n0_ n1_ n2_ n3_ n4_ n5_ n6_; clear hb hbox hg; have hnb7 := NB271_272.out; have hnc7 := NB272_271.out; have hcz8_0 : w6.cell? ⟨gb271, 0, none⟩ = some (.slice A0_0 l0_0.length c0_0) := (ql BK271.out 0).trans rfl; have hfz8_0 := qo BK271.out 0; have hcz9_0 : w6.cell? ⟨gb272, 0, none⟩ = some (.slice A1_0 l1_0.length c1_0) := (ql BK272.out 0).trans rfl; have hfz9_0 := qo BK272.out 0) | (go_at_call 58; (with_reducible refine (qv.calls k _ _ l0_0 _ _ l1_0 t273 _ ?side1 ?side2 ?side3 ?side4 A4.out).mono ?_); (case side1 => repeat (first | exact (Kd.ki HR0_0.out HB.out) | (with_reducible refine Kd.kr ?_ _) | (with_reducible refine Kd.ks ?_ _) | (with_reducible refine Kd.ky ?_))); (case side2 => exact HC0_0.out); (case side3 => repeat (first | exact (Kd.ki HR1_0.out HB.out) | (with_reducible refine Kd.kr ?_ _) | (with_reducible refine Kd.ks ?_ _) | (with_reducible refine Kd.ky ?_))); (case side4 => exact HC1_0.out); rintro e w10 ⟨rfl, hb⟩; have n0_ := qa.mk (q9 (g := gb271) (o := .cells #[.slice A0_0 l0_0.length c0_0] 31 (0, 0)) fe hb); have n1_ := qa.mk (q9 (g := gb272) (o := .cells #[.slice A1_0 l1_0.length c1_0] 31 (0, 0)) (by (with_reducible repeat (first | refine qg ?_ _ | refine qi ?_ | refine qf ?_ _)); exact BK272.out) hb); have n2_ := qa.mk (qp (by repeat (first | (with_reducible first | exact HB.out | apply qc | apply qb | apply qd | refine qe ?_ GE271.out | refine qe ?_ GE272.out) | exact HB.out)) hb); clear BK271; clear BK272; clear HB; have BK271 := n0_; have BK272 := n1_; have HB := n2_; clear n0_ n1_ n2_; (try clear hb); (try clear hb2); (try clear hk); (try clear hi)))
  go_ret
  exact ⟨by first | rfl | (simp [qu, qt] <;> rfl) | (simp [*, qu, qt] <;> rfl), by repeat (first | (with_reducible first | exact HB.out | apply qc | apply qb | apply qd | refine qe ?_ GE271.out | refine qe ?_ GE272.out) | exact HB.out)⟩
 ·rw [if_neg c3] at H
  have c3b0 : ((l0_0.length : Int) == (l1_0.length : Int)) = false := beq_eq_false_iff_ne.mpr c3
  have c3b1 : ((l0_0.length : Int) != (l1_0.length : Int)) = true := bne_iff_ne.mpr c3
  have c3b2 : (l0_0.length == l1_0.length) = false := by first | simpa using c3 | (simp at c3 ⊢; omega)
  obtain rfl := Option.some.inj H
  go_enter Tryz.func26, Tryz.ntmps26
  go_wp2_with (first | ((with_reducible refine zl (N := 2) rfl ?_); refine zo ?hg (N := 2) ?hd (cs := #[.slice A0_0 l0_0.length c0_0]) (t := 31) ?hr ?_; (case hd => rfl); (case hg => rfl); (case hr => first | (go_simp; done) | (go_simp; rfl)); intro gb271 hg w11 hbox hb; have n0_ := qa.mk (qp cu hb); have n1_ := qa.mk (hbox); have n2_ := qa.mk ((by rw [hg]; exact (qr cu) : w.heap.size ≤ gb271)); have n3_ := qa.mk ((by rw [hg]; exact (qr cu) : w.heap.size ≤ gb271)); clear HB; have HB := n0_; have BK271 := n1_; have GW271 := n2_; have GE271 := n3_; clear n0_ n1_ n2_ n3_; clear hb hbox hg) | ((with_reducible refine zl (N := 3) rfl ?_); refine zo ?hg (N := 3) ?hd (cs := #[.slice A1_0 l1_0.length c1_0]) (t := 31) ?hr ?_; (case hd => rfl); (case hg => rfl); (case hr => first | (go_simp; done) | (go_simp; rfl)); intro gb272 hg w12 hbox hb; have n0_ := qa.mk (q9 (g := gb271) (o := .cells #[.slice A0_0 l0_0.length c0_0] 31 (0, 0)) fe hb); have n1_ := qa.mk (qp uq hb); have n2_ := qa.mk (hbox); have n3_ := qa.mk ((by rw [hg]; exact (qr uq) : w.heap.size ≤ gb272)); have n4_ := qa.mk ((by rw [hg]; exact (qr uq) : w.heap.size ≤ gb272)); have n5_ := qa.mk ((by rw [hg]; exact Nat.ne_of_lt (zz (g := gb271) (o := .cells #[.slice A0_0 l0_0.length c0_0] 31 (0, 0)) fe) : gb271 ≠ gb272)); have n6_ := qa.mk ((by rw [hg]; exact Nat.ne_of_gt (zz (g := gb271) (o := .cells #[.slice A0_0 l0_0.length c0_0] 31 (0, 0)) fe) : gb272 ≠ gb271)); clear BK271; clear HB; have BK271 := n0_; have HB := n1_; have BK272 := n2_; have GW272 := n3_; have GE272 := n4_; have NB271_272 := n5_; have NB272_271 := n6_; clear n0_ n1_ n2_ n3_ n4_ n5_ n6_; clear hb hbox hg; have hnb13 := NB271_272.out; have hnc13 := NB272_271.out; have hcz14_0 : w12.cell? ⟨gb271, 0, none⟩ = some (.slice A0_0 l0_0.length c0_0) := (ql BK271.out 0).trans rfl; have hfz14_0 := qo BK271.out 0; have hcz15_0 : w12.cell? ⟨gb272, 0, none⟩ = some (.slice A1_0 l1_0.length c1_0) := (ql BK272.out 0).trans rfl; have hfz15_0 := qo BK272.out 0))
  go_ret
  exact ⟨by first | rfl | (simp [qu, qt] <;> rfl) | (simp [*, qu, qt] <;> rfl), by repeat (first | (with_reducible first | exact HB.out | apply qc | apply qb | apply qd | refine qe ?_ GE271.out | refine qe ?_ GE272.out) | exact HB.out)⟩
end Go.Proofs.YthdoohfdminfgaaGreatDoor.C
end
section
namespace Go.Proofs.YthdoohfdminfgaaGreatDoor.C
open Go.RowKit Go.Proofs.YthdoohfdminfgaaGreatDoorW.PrintWords Go.Proofs.YthdoohfdminfgaaGreatDoorW.PrintLast Go.Proofs.YthdoohfdminfgaaGreatDoorW.PrintMore
attribute [local go_sem] xa z7 xq xr zx zy xc z8
set_option linter.unusedVariables false
set_option linter.unusedSimpArgs false
def zw (w0 W : World) (g : Nat) (f0 : List Int) (f1 : Int) : Prop := ∃ A0 c0, W.heap[g]? = some (.cells #[.slice A0 f0.length c0, .int .i64 f1] 54 (0, 0)) ∧ w0.heap.size ≤ g ∧ Kd.C (Kd.int .i64) w0 A0 f0.length f0
theorem zw.grown {w0 W : World} {g : Nat} {f0 : List Int} {f1 : Int} {W1 : World} {row : Option Nat} (h : zw w0 W g f0 f1) (hw : W.grownBy W1 row) (hne : some g ≠ row) : zw w0 W1 g f0 f1 := by
 obtain ⟨A0, c0, hb, hg, hr0⟩ := h
 exact ⟨A0, c0, kw hb hw hne, hg, hr0⟩
theorem zw.kept {w0 W : World} {g : Nat} {f0 : List Int} {f1 : Int} {W1 : World} {S : Nat → Prop} (h : zw w0 W g f0 f1) (hk : Kept W W1 S) (hne : ¬ S g) : zw w0 W1 g f0 f1 := by
 obtain ⟨A0, c0, hb, hg, hr0⟩ := h
 exact ⟨A0, c0, blk_kept hb hk hne, hg, hr0⟩
theorem zw.below {w0 W : World} {g : Nat} {f0 : List Int} {f1 : Int} {W1 : World} (h : zw w0 W g f0 f1) (hw : Below W.heap.size W W1) : zw w0 W1 g f0 f1 := h.grown (grown_of_below hw none) yt
theorem zw.alloc {w0 W : World} {g : Nat} {f0 : List Int} {f1 : Int} (h : zw w0 W g f0 f1) (o : Obj) : zw w0 (W.alloc o) g f0 f1 := h.below (qc (Below.refl _ _) o)
theorem zw.drewN {w0 W : World} {g : Nat} {f0 : List Int} {f1 : Int} (h : zw w0 W g f0 f1) (m : Nat) : zw w0 (W.drewN m) g f0 f1 := h
theorem zw.drew {w0 W : World} {g : Nat} {f0 : List Int} {f1 : Int} (h : zw w0 W g f0 f1) : zw w0 W.drew g f0 f1 := h
theorem zw.at_ {w0 W : World} {g : Nat} {f0 : List Int} {f1 : Int} {w' : World} {m : Nat} (hq : W.drewN m = w') (h : zw w0 W g f0 f1) : zw w0 w' g f0 f1 := by subst hq; exact zw.drewN h m
theorem zw.apart {w0 W : World} {g : Nat} {f0 : List Int} {f1 : Int} {α : Type} {d : Kd α} {e : Nat} {base : Nat} {ok : Nat → Prop} {v : Value} {xs : List α} (h : zw w0 W g f0 f1) (ho : d.R e W base ok v xs) (ht : ∀ q, q ∈ e :: d.E → q ≠ 54) : d.R e W base (fun k => ok k ∧ k ≠ g) v xs := by
 obtain ⟨A0, c0, hb, hg, hr0⟩ := h
 exact Kd.R_types ho hb ht
theorem zw.own_ne {w0 W : World} {g : Nat} {f0 : List Int} {f1 : Int} {α : Type} {d : Kd α} {e : Nat} {base : Nat} {ok : Nat → Prop} {v : Value} {xs : List α} (h : zw w0 W g f0 f1) (ho : d.R e W base ok v xs) (ht : e ≠ 54) : some g ≠ v.ownBlock := by
 obtain ⟨A0, c0, hb, hg, hr0⟩ := h
 exact Kd.R_ne ho hb ht
theorem zw.apartS {w0 W : World} {g : Nat} {f0 : List Int} {f1 : Int} {α : Type} {d : Kd α} {e : Nat} {base : Nat} {ok : Nat → Prop} {v : Value} {xs : List α} (h : zw w0 W g f0 f1) (ho : d.S e W base ok v xs) (ht : ∀ q, q ∈ e :: d.E → q ≠ 54) : d.S e W base (fun k => ok k ∧ k ≠ g) v xs := by
 obtain ⟨A0, c0, hb, hg, hr0⟩ := h
 exact Kd.k6 ho hb ht
theorem zw.lt {w0 W : World} {g : Nat} {f0 : List Int} {f1 : Int} (h : zw w0 W g f0 f1) : g < W.heap.size := by
 obtain ⟨A0, c0, hb, hg, hr0⟩ := h
 exact zz hb
theorem zw.ge {w0 W : World} {g : Nat} {f0 : List Int} {f1 : Int} (h : zw w0 W g f0 f1) : w0.heap.size ≤ g := by
 obtain ⟨A0, c0, hb, hg, hr0⟩ := h
 exact hg
theorem zw.far {w0 W : World} {g : Nat} {f0 : List Int} {f1 : Int} {p : Addr} (h : zw w0 W g f0 f1) (hne : g ≠ p.block) (u : Value) : zw w0 (W.setCell p u) g f0 f1 := by
 obtain ⟨A0, c0, hb, hg, hr0⟩ := h
 exact ⟨A0, c0, xt hb hne u, hg, hr0⟩
theorem cellS54_0 {W : World} {g : Nat} {A0 : Option Addr} {c0 : Nat} {f0 : List Int} {f1 : Int} (h : W.heap[g]? = some (.cells #[.slice A0 f0.length c0, .int .i64 f1] 54 (0, 0))) : W.cell? ⟨g, 0, none⟩ = some (.slice A0 f0.length c0) := (ql h 0).trans rfl
theorem cellS54_1 {W : World} {g : Nat} {A0 : Option Addr} {c0 : Nat} {f0 : List Int} {f1 : Int} (h : W.heap[g]? = some (.cells #[.slice A0 f0.length c0, .int .i64 f1] 54 (0, 0))) : W.cell? ⟨g, 1, none⟩ = some (.int .i64 f1) := (ql h 1).trans rfl
theorem zw.set_1 {w0 W : World} {g : Nat} {f0 : List Int} {f1 : Int} (h : zw w0 W g f0 f1) (x : Int) : zw w0 (W.setCell ⟨g, 1, none⟩ (.int .i64 x)) g f0 x := by
 obtain ⟨A0, c0, hb, hg, hr0⟩ := h
 exact ⟨A0, c0, by simpa using blk_set hb 1 (.int .i64 x), hg, hr0⟩
def certpathmade_New.f (l0 : List Int) : Option (List Int × Int) := some (l0, 0)
set_option maxHeartbeats 8000000 in
set_option maxRecDepth 100000 in
theorem certpathmade_New.calls (A0 : Option Addr) (c0 : Nat) (l0 : List Int) (r1 : List Int) (r2 : Int) (w0 w : World) (hB : Below w0.heap.size w0 w) (hr0 : Kd.C (Kd.int .i64) w0 A0 l0.length l0) (hc0 : l0.length ≤ c0) (h : certpathmade_New.f l0 = some (r1, r2)) :
  Calls Tryz.prog 9 #[.slice A0 l0.length c0] w fun e w' => ∃ g_ : Nat, e = .returned (.pointer (some ⟨g_, 0, none⟩)) ∧ zw w0 w' g_ r1 r2 ∧ Below w0.heap.size w0 w' ∧ Below w.heap.size w w' := by
 have hu54 := Tryz.underlying54
 have HR0 := qa.mk hr0
 have HC0 := qa.mk hc0
 clear hr0 hc0
 have HBW := qa.mk (Below.refl w.heap.size w)
 have HW0 := qa.mk hB.size
 have HB := qa.mk hB
 clear hB
 have H : (some (l0, 0)) = some (r1, r2) := h
 clear h
 simp only [Option.some.injEq, Prod.mk.injEq] at H
 obtain ⟨rfl, rfl⟩ := H
 go_enter Tryz.func9, Tryz.ntmps9
 go_wp2_with (first | ((with_reducible refine zl (N := 5) rfl ?_); refine zo ?hg (N := 5) ?hd (cs := #[.slice A0 l0.length c0, .int .i64 0]) (t := 54) ?hr ?_; (case hd => rfl); (case hg => rfl); (case hr => first | (go_simp; done) | (go_simp; rfl)); intro gb278 hg w2 hbox hb; have n0_ := qa.mk (qp HBW.out hb); have n1_ := qa.mk (qp cu hb); have n2_ := qa.mk (hbox); have n3_ := qa.mk ((by rw [hg]; exact (qr (by repeat (first | (with_reducible first | exact HBW.out | apply qc | apply qb | apply qd) | exact HBW.out))) : w.heap.size ≤ gb278)); have n4_ := qa.mk ((Nat.le_trans HW0.out (by rw [hg]; exact (qr (by repeat (first | (with_reducible first | exact HBW.out | apply qc | apply qb | apply qd) | exact HBW.out))) : w.heap.size ≤ gb278) : w0.heap.size ≤ gb278)); clear HBW; clear HB; have HBW := n0_; have HB := n1_; have BK278 := n2_; have GW278 := n3_; have GE278 := n4_; clear n0_ n1_ n2_ n3_ n4_; clear hb hbox hg))
 go_ret
 exact ⟨_, rfl, (show zw w0 _ gb278 l0 0 from ⟨_, _, by (with_reducible repeat (first | refine qg ?_ _ | refine qi ?_ | refine qf ?_ _)); exact BK278.out, GE278.out, HR0.out⟩), by repeat (first | (with_reducible first | exact HB.out | apply qc | apply qb | apply qd | refine qe ?_ GE278.out) | exact HB.out), by repeat (first | (with_reducible first | exact HBW.out | apply qc | apply qb | apply qd | refine qe ?_ GW278.out) | exact HBW.out)⟩
def xy.f (s0_0 : List Int) (s0_1 : Int) (a1 : Int) : Option (Int × Int) := if s0_1 ≥ (s0_0.length : Int) then (some (0, s0_1)) else (if 0 ≤ (wrap64 ((wrap64 (s0_1 + 1)) - 1)) then (if (wrap64 ((wrap64 (s0_1 + 1)) - 1)) < (s0_0.length : Int) then (if a1 = 0 then (none) else (some (Int.tmod (wrap64 ((Int.tmod (rd s0_0 (wrap64 ((wrap64 (s0_1 + 1)) - 1))) a1) + a1)) a1, wrap64 (s0_1 + 1)))) else (none)) else (none))
set_option maxHeartbeats 8000000 in
set_option maxRecDepth 100000 in
theorem xy.calls (g : Nat) (s0_0 : List Int) (s0_1 : Int) (a1 : Int) (r1 : Int) (r2 : Int) (w0 w : World) (hI : zw w0 w g s0_0 s0_1) (hB : Below w0.heap.size w0 w) (h : xy.f s0_0 s0_1 a1 = some (r1, r2)) :
  Calls Tryz.prog 18 #[.pointer (some ⟨g, 0, none⟩), .int .i64 a1] w fun e w' => e = .returned (.int .i64 r1) ∧ zw w0 w' g s0_0 r2 ∧ Below w0.heap.size w0 w' ∧ KeepBut w w' g none := by
 have HI0 := qa.mk hI
 have HK := qa.mk (KeepBut.refl w g none)
 have HL := qa.mk hB.size
 clear hI
 have HW0 := qa.mk hB.size
 have HB := qa.mk hB
 clear hB
 have H : (if s0_1 ≥ (s0_0.length : Int) then (some (0, s0_1)) else (if 0 ≤ (wrap64 ((wrap64 (s0_1 + 1)) - 1)) then (if (wrap64 ((wrap64 (s0_1 + 1)) - 1)) < (s0_0.length : Int) then (if a1 = 0 then (none) else (some (Int.tmod (wrap64 ((Int.tmod (rd s0_0 (wrap64 ((wrap64 (s0_1 + 1)) - 1))) a1) + a1)) a1, wrap64 (s0_1 + 1)))) else (none)) else (none))) = some (r1, r2) := h
 clear h
 by_cases c3 : s0_1 ≥ (s0_0.length : Int)
 ·rw [if_pos c3] at H
  have c3b0 : decide ((s0_0.length : Int) ≤ s0_1) = true := decide_eq_true c3
  clear c3
  simp only [Option.some.injEq, Prod.mk.injEq] at H
  obtain ⟨rfl, rfl⟩ := H
  obtain ⟨ASz4_0, cSz4_0, HGz4, hgz4, HSz4_0⟩ := HI0.out
  have hcz4_0 := cellS54_0 HGz4
  have hcz4_1 := cellS54_1 HGz4
  have hfz4_1 := qo HGz4 1
  clear HGz4 hgz4
  go_enter Tryz.func18, Tryz.ntmps18
  go_wp2
  repeat (go_quiet (fail); try go_wp2)
  go_ret
  exact ⟨by first | rfl | (simp [qu, qt] <;> rfl) | (simp [*, qu, qt] <;> rfl), by repeat (first | (with_reducible first | exact HI0.out | apply zw.alloc | apply zw.drewN | apply zw.drew | apply zw.set_1) | exact HI0.out), by repeat (first | (with_reducible first | exact HB.out | apply qc | apply qb | apply qd | refine qe ?_ (zw.ge HI0.out)) | exact HB.out), by repeat (first | (with_reducible first | exact HK.out | apply KeepBut.set_ | apply keep_drewN | apply keep_drew | apply keep_alloc) | exact HK.out)⟩
 ·rw [if_neg c3] at H
  have c3b0 : decide ((s0_0.length : Int) ≤ s0_1) = false := decide_eq_false c3
  clear c3
  obtain ⟨ji5, hji5⟩ : ∃ j_ : Int, (wrap64 ((wrap64 (s0_1 + 1)) - 1)) = j_ := ⟨_, rfl⟩
  replace H : (if 0 ≤ (ji5) then (if (ji5) < (s0_0.length : Int) then (if a1 = 0 then (none) else (some (Int.tmod (wrap64 ((Int.tmod (rd s0_0 (ji5)) a1) + a1)) a1, wrap64 (s0_1 + 1)))) else (none)) else (none)) = some (r1, r2) := by first | (rw [hji5] at H; exact H) | (simp only [hji5] at H ⊢; exact H)
  have hji5w : (IntKind.i64.wrap ((wrap64 (s0_1 + 1)) - 1)) = ji5 := (zm _).trans hji5
  by_cases c6 : 0 ≤ (ji5)
  ·rw [if_pos c6] at H
   have c6b0 : decide (0 ≤ (ji5)) = true := decide_eq_true c6
   clear c6
   by_cases c7 : (ji5) < (s0_0.length : Int)
   ·rw [if_pos c7] at H
    have c7b0 : decide ((ji5) < (s0_0.length : Int)) = true := decide_eq_true c7
    clear c7
    by_cases c8 : a1 = 0
    ·rw [if_pos c8] at H
     exact absurd H yt
    ·rw [if_neg c8] at H
     have c8b0 : (a1 == 0) = false := beq_eq_false_iff_ne.mpr c8
     have c8b1 : (a1 != 0) = true := bne_iff_ne.mpr c8
     simp only [Option.some.injEq, Prod.mk.injEq] at H
     obtain ⟨rfl, rfl⟩ := H
     obtain ⟨ASz9_0, cSz9_0, HGz9, hgz9, HSz9_0⟩ := HI0.out
     have hcz9_0 := cellS54_0 HGz9
     have hcz9_1 := cellS54_1 HGz9
     have hfz9_1 := qo HGz9 1
     clear HGz9 hgz9
     have p279 : 0 ≤ ((ji5) : Int) := of_decide_eq_true cz
     have q279 : (ji5) < (s0_0.length : Int) := of_decide_eq_true cz
     obtain ⟨ad279, e279, hx279_0⟩ := Kd.at_int HSz9_0 (ji5) p279 q279
     cases e279
     have hn279_0 : ad279.block ≠ g := Nat.ne_of_lt (Nat.lt_of_lt_of_le (by have := World.block_lt_of_cell? _ _ hx279_0; first | rwa [add_block] at this | exact this) (zw.ge HI0.out))
     replace hx279_0 := pw_cell_below HB.out hx279_0
     replace hx279_0 := (cell_far (p := ⟨g, 1, none⟩) (by first | (rw [add_block]; exact hn279_0) | (show (Addr.add _ _).block ≠ _; rw [add_block]; exact hn279_0) | exact hn279_0) (.int .i64 (wrap64 (s0_1 + 1)))).trans hx279_0
     (try have hy279_0 := fun (n_ : Nat) => (show (((w.drewN n_).setCell ⟨g, 1, none⟩ (.int .i64 (wrap64 (s0_1 + 1))))).cell? _ = some _ from hx279_0))
     clear hn279_0
     replace p279 := eq_true p279
     replace q279 := eq_true q279
     go_enter Tryz.func18, Tryz.ntmps18
     go_wp2
     repeat (go_quiet (fail); try go_wp2)
     go_ret
     exact ⟨by first | rfl | (simp [qu, qt] <;> rfl) | (simp only [← hji5]; first | rfl | (simp [qu, qt] <;> rfl)) | (simp [*, qu, qt] <;> rfl), by repeat (first | (with_reducible first | exact HI0.out | apply zw.alloc | apply zw.drewN | apply zw.drew | apply zw.set_1) | exact HI0.out), by repeat (first | (with_reducible first | exact HB.out | apply qc | apply qb | apply qd | refine qe ?_ (zw.ge HI0.out)) | exact HB.out), by repeat (first | (with_reducible first | exact HK.out | apply KeepBut.set_ | apply keep_drewN | apply keep_drew | apply keep_alloc) | exact HK.out)⟩
   ·rw [if_neg c7] at H
    exact absurd H yt
  ·rw [if_neg c6] at H
   exact absurd H yt
def certpathmade_attribute.f (s0_0 : List Int) (s0_1 : Int) : Option (ByteArray × Int × ByteArray × Int) := (some (([(⟨(⟨#[50, 46, 53, 46, 52, 46, 51]⟩ : ByteArray), 12, (⟨#[65, 110, 110]⟩ : ByteArray)⟩ : S40), (⟨(⟨#[50, 46, 53, 46, 52, 46, 51]⟩ : ByteArray), 19, (⟨#[32, 97, 110, 110]⟩ : ByteArray)⟩ : S40), (⟨(⟨#[50, 46, 53, 46, 52, 46, 51]⟩ : ByteArray), 12, (⟨#[103, 114, 195, 182, 195, 159, 101]⟩ : ByteArray)⟩ : S40), (⟨(⟨#[50, 46, 53, 46, 52, 46, 54]⟩ : ByteArray), 19, (⟨#[85, 83]⟩ : ByteArray)⟩ : S40), (⟨(⟨#[50, 46, 53, 46, 52, 46, 49, 48]⟩ : ByteArray), 19, (⟨#[69, 120, 97, 109, 112, 108, 101, 32, 32, 67, 111, 114, 112]⟩ : ByteArray)⟩ : S40), (⟨(⟨#[50, 46, 53, 46, 52, 46, 49, 48]⟩ : ByteArray), 12, (⟨#[101, 120, 97, 109, 112, 108, 101, 32, 99, 111, 114, 112]⟩ : ByteArray)⟩ : S40), (⟨(⟨#[50, 46, 53, 46, 52, 46, 49, 49]⟩ : ByteArray), 22, (⟨#[97, 44, 98, 43, 99, 61, 100, 92, 101]⟩ : ByteArray)⟩ : S40), (⟨(⟨#[48, 46, 57, 46, 50, 51, 52, 50, 46, 49, 57, 50, 48, 48, 51, 48, 48, 46, 49, 48, 48, 46, 49, 46, 50, 53]⟩ : ByteArray), 22, (⟨#[111, 114, 103]⟩ : ByteArray)⟩ : S40), (⟨(⟨#[49, 46, 50, 46, 56, 52, 48, 46, 49, 49, 51, 53, 52, 57, 46, 49, 46, 57, 46, 49]⟩ : ByteArray), 22, (⟨#[97, 110, 110, 64, 101, 120, 97, 109, 112, 108, 101, 46, 111, 114, 103]⟩ : ByteArray)⟩ : S40), (⟨(⟨#[49, 46, 50, 46, 56, 52, 48, 46, 49, 49, 51, 53, 52, 57, 46, 49, 46, 57, 46, 49]⟩ : ByteArray), 22, (⟨#[110, 111, 32, 97, 100, 100, 114, 101, 115, 115]⟩ : ByteArray)⟩ : S40), (⟨(⟨#[50, 46, 53, 46, 52, 46, 57, 57]⟩ : ByteArray), 19, (⟨#[120]⟩ : ByteArray)⟩ : S40), (⟨(⟨#[50, 46, 53, 46, 52, 46, 55]⟩ : ByteArray), 12, (⟨#[76]⟩ : ByteArray)⟩ : S40)] : List (S40)) : List (S40))).bind fun y281 => ((xy.f s0_0 s0_1 12).bind fun bt284 => (if 0 ≤ bt284.1 then (if bt284.1 < (y281.length : Int) then (some ((qn y281 bt284.1).f0, (qn y281 bt284.1).f1, (qn y281 bt284.1).f2, bt284.2)) else (none)) else (none)))
set_option maxHeartbeats 8000000 in
set_option maxRecDepth 100000 in
theorem certpathmade_attribute.calls (g : Nat) (s0_0 : List Int) (s0_1 : Int) (r1 : ByteArray) (r2 : Int) (r3 : ByteArray) (r4 : Int) (w0 w : World) (hI : zw w0 w g s0_0 s0_1) (hB : Below w0.heap.size w0 w) (h : certpathmade_attribute.f s0_0 s0_1 = some (r1, r2, r3, r4)) :
  Calls Tryz.prog 34 #[.pointer (some ⟨g, 0, none⟩)] w fun e w' => e = .returned (.agg #[.string r1, .int .i64 r2, .string r3]) ∧ zw w0 w' g s0_0 r4 ∧ Below w0.heap.size w0 w' ∧ KeepBut w w' g none := by
 have hu40 := Tryz.underlying40
 have HI0 := qa.mk hI
 have HK := qa.mk (KeepBut.refl w g none)
 have HL := qa.mk hB.size
 clear hI
 have HW0 := qa.mk hB.size
 have HB := qa.mk hB
 clear hB
 have H : ((some (([(⟨(⟨#[50, 46, 53, 46, 52, 46, 51]⟩ : ByteArray), 12, (⟨#[65, 110, 110]⟩ : ByteArray)⟩ : S40), (⟨(⟨#[50, 46, 53, 46, 52, 46, 51]⟩ : ByteArray), 19, (⟨#[32, 97, 110, 110]⟩ : ByteArray)⟩ : S40), (⟨(⟨#[50, 46, 53, 46, 52, 46, 51]⟩ : ByteArray), 12, (⟨#[103, 114, 195, 182, 195, 159, 101]⟩ : ByteArray)⟩ : S40), (⟨(⟨#[50, 46, 53, 46, 52, 46, 54]⟩ : ByteArray), 19, (⟨#[85, 83]⟩ : ByteArray)⟩ : S40), (⟨(⟨#[50, 46, 53, 46, 52, 46, 49, 48]⟩ : ByteArray), 19, (⟨#[69, 120, 97, 109, 112, 108, 101, 32, 32, 67, 111, 114, 112]⟩ : ByteArray)⟩ : S40), (⟨(⟨#[50, 46, 53, 46, 52, 46, 49, 48]⟩ : ByteArray), 12, (⟨#[101, 120, 97, 109, 112, 108, 101, 32, 99, 111, 114, 112]⟩ : ByteArray)⟩ : S40), (⟨(⟨#[50, 46, 53, 46, 52, 46, 49, 49]⟩ : ByteArray), 22, (⟨#[97, 44, 98, 43, 99, 61, 100, 92, 101]⟩ : ByteArray)⟩ : S40), (⟨(⟨#[48, 46, 57, 46, 50, 51, 52, 50, 46, 49, 57, 50, 48, 48, 51, 48, 48, 46, 49, 48, 48, 46, 49, 46, 50, 53]⟩ : ByteArray), 22, (⟨#[111, 114, 103]⟩ : ByteArray)⟩ : S40), (⟨(⟨#[49, 46, 50, 46, 56, 52, 48, 46, 49, 49, 51, 53, 52, 57, 46, 49, 46, 57, 46, 49]⟩ : ByteArray), 22, (⟨#[97, 110, 110, 64, 101, 120, 97, 109, 112, 108, 101, 46, 111, 114, 103]⟩ : ByteArray)⟩ : S40), (⟨(⟨#[49, 46, 50, 46, 56, 52, 48, 46, 49, 49, 51, 53, 52, 57, 46, 49, 46, 57, 46, 49]⟩ : ByteArray), 22, (⟨#[110, 111, 32, 97, 100, 100, 114, 101, 115, 115]⟩ : ByteArray)⟩ : S40), (⟨(⟨#[50, 46, 53, 46, 52, 46, 57, 57]⟩ : ByteArray), 19, (⟨#[120]⟩ : ByteArray)⟩ : S40), (⟨(⟨#[50, 46, 53, 46, 52, 46, 55]⟩ : ByteArray), 12, (⟨#[76]⟩ : ByteArray)⟩ : S40)] : List (S40)) : List (S40))).bind fun y281 => ((xy.f s0_0 s0_1 12).bind fun bt284 => (if 0 ≤ bt284.1 then (if bt284.1 < (y281.length : Int) then (some ((qn y281 bt284.1).f0, (qn y281 bt284.1).f1, (qn y281 bt284.1).f2, bt284.2)) else (none)) else (none)))) = some (r1, r2, r3, r4) := h
 clear h
 obtain ⟨y281, hy281⟩ : ∃ y_ : List (S40), y_ = (([(⟨(⟨#[50, 46, 53, 46, 52, 46, 51]⟩ : ByteArray), 12, (⟨#[65, 110, 110]⟩ : ByteArray)⟩ : S40), (⟨(⟨#[50, 46, 53, 46, 52, 46, 51]⟩ : ByteArray), 19, (⟨#[32, 97, 110, 110]⟩ : ByteArray)⟩ : S40), (⟨(⟨#[50, 46, 53, 46, 52, 46, 51]⟩ : ByteArray), 12, (⟨#[103, 114, 195, 182, 195, 159, 101]⟩ : ByteArray)⟩ : S40), (⟨(⟨#[50, 46, 53, 46, 52, 46, 54]⟩ : ByteArray), 19, (⟨#[85, 83]⟩ : ByteArray)⟩ : S40), (⟨(⟨#[50, 46, 53, 46, 52, 46, 49, 48]⟩ : ByteArray), 19, (⟨#[69, 120, 97, 109, 112, 108, 101, 32, 32, 67, 111, 114, 112]⟩ : ByteArray)⟩ : S40), (⟨(⟨#[50, 46, 53, 46, 52, 46, 49, 48]⟩ : ByteArray), 12, (⟨#[101, 120, 97, 109, 112, 108, 101, 32, 99, 111, 114, 112]⟩ : ByteArray)⟩ : S40), (⟨(⟨#[50, 46, 53, 46, 52, 46, 49, 49]⟩ : ByteArray), 22, (⟨#[97, 44, 98, 43, 99, 61, 100, 92, 101]⟩ : ByteArray)⟩ : S40), (⟨(⟨#[48, 46, 57, 46, 50, 51, 52, 50, 46, 49, 57, 50, 48, 48, 51, 48, 48, 46, 49, 48, 48, 46, 49, 46, 50, 53]⟩ : ByteArray), 22, (⟨#[111, 114, 103]⟩ : ByteArray)⟩ : S40), (⟨(⟨#[49, 46, 50, 46, 56, 52, 48, 46, 49, 49, 51, 53, 52, 57, 46, 49, 46, 57, 46, 49]⟩ : ByteArray), 22, (⟨#[97, 110, 110, 64, 101, 120, 97, 109, 112, 108, 101, 46, 111, 114, 103]⟩ : ByteArray)⟩ : S40), (⟨(⟨#[49, 46, 50, 46, 56, 52, 48, 46, 49, 49, 51, 53, 52, 57, 46, 49, 46, 57, 46, 49]⟩ : ByteArray), 22, (⟨#[110, 111, 32, 97, 100, 100, 114, 101, 115, 115]⟩ : ByteArray)⟩ : S40), (⟨(⟨#[50, 46, 53, 46, 52, 46, 57, 57]⟩ : ByteArray), 19, (⟨#[120]⟩ : ByteArray)⟩ : S40), (⟨(⟨#[50, 46, 53, 46, 52, 46, 55]⟩ : ByteArray), 12, (⟨#[76]⟩ : ByteArray)⟩ : S40)] : List (S40))) := ⟨_, rfl⟩
 replace H : ((xy.f s0_0 s0_1 12).bind fun bt284 => (if 0 ≤ bt284.1 then (if bt284.1 < (y281.length : Int) then (some ((qn y281 bt284.1).f0, (qn y281 bt284.1).f1, (qn y281 bt284.1).f2, bt284.2)) else (none)) else (none))) = some (r1, r2, r3, r4) := by first | (rw [hy281]; with_reducible exact H) | (have H2_ := (Option.bind_some _ _).symm.trans H; rw [hy281]; with_reducible exact H2_) | (have H2_ := (Option.bind_some _ _).symm.trans H; with_reducible exact H2_) | with_reducible exact H | (rw [hy281]; exact H) | exact H
 have Ny281 := qa.mk hy281
 clear hy281
 replace H := Option.bind_eq_some_iff.mp H
 obtain ⟨⟨t284, t285⟩, A20, H⟩ := H
 replace H : (if 0 ≤ t284 then (if t284 < (y281.length : Int) then (some ((qn y281 t284).f0, (qn y281 t284).f1, (qn y281 t284).f2, t285)) else (none)) else (none)) = some (r1, r2, r3, r4) := H
 have A2 := qa.mk A20
 clear A20
 by_cases c3 : 0 ≤ t284
 ·rw [if_pos c3] at H
  have c3b0 : decide (0 ≤ t284) = true := decide_eq_true c3
  clear c3
  by_cases c4 : t284 < (y281.length : Int)
  ·rw [if_pos c4] at H
   have c4b0 : decide (t284 < (y281.length : Int)) = true := decide_eq_true c4
   clear c4
   simp only [Option.some.injEq, Prod.mk.injEq] at H
   obtain ⟨rfl, rfl, rfl, rfl⟩ := H
   go_enter Tryz.func34, Tryz.ntmps34
   go_wp2_with (first | ((with_reducible refine zl (N := 2) rfl ?_); refine zo ?hg (N := 2) ?hd (cs := #[.string (⟨#[]⟩ : ByteArray), .int .i64 0, .string (⟨#[]⟩ : ByteArray)]) (t := 40) ?hr ?_; (case hd => rfl); (case hg => rfl); (case hr => first | (go_simp; done) | (go_simp; rfl)); intro gb280 hg w5 hbox hb; have n0_ := qa.mk (zw.below (by repeat (first | (with_reducible first | exact HI0.out | apply zw.alloc | apply zw.drewN | apply zw.drew | apply zw.set_1) | exact HI0.out)) hb); have n1_ := qa.mk (KeepBut.trans cag (KeepBut.of_below hb g none) (.inl rfl)); have n2_ := qa.mk (qp (by repeat (first | (with_reducible first | exact HB.out | apply qc | apply qb | apply qd | refine qe ?_ (zw.ge HI0.out)) | exact HB.out)) hb); have n3_ := qa.mk (hbox); have n4_ := qa.mk ((by rw [hg]; exact (keep_size (w := w) (g := g) (row := none) cag) : w.heap.size ≤ gb280)); have n5_ := qa.mk ((Nat.le_trans HW0.out (by rw [hg]; exact (keep_size (w := w) (g := g) (row := none) cag) : w.heap.size ≤ gb280) : w0.heap.size ≤ gb280)); have n6_ := qa.mk ((by rw [hg]; exact Nat.ne_of_lt (zw.lt (show zw w0 _ g s0_0 s0_1 from by repeat (first | (with_reducible first | exact HI0.out | apply zw.alloc | apply zw.drewN | apply zw.drew | apply zw.set_1) | exact HI0.out))) : g ≠ gb280)); have n7_ := qa.mk ((by rw [hg]; exact Nat.ne_of_gt (zw.lt (show zw w0 _ g s0_0 s0_1 from by repeat (first | (with_reducible first | exact HI0.out | apply zw.alloc | apply zw.drewN | apply zw.drew | apply zw.set_1) | exact HI0.out))) : gb280 ≠ g)); clear HI0; clear HK; clear HB; have HI0 := n0_; have HK := n1_; have HB := n2_; have BK280 := n3_; have GW280 := n4_; have GE280 := n5_; have NB0_280 := n6_; have NB280_0 := n7_; clear n0_ n1_ n2_ n3_ n4_ n5_ n6_ n7_; clear hb hbox hg) | ((with_reducible refine zl (N := 15) rfl ?_); refine Kd.R_lit k40 _ 40 ?hg (N := 15) ?hd (xs := ([(⟨(⟨#[50, 46, 53, 46, 52, 46, 51]⟩ : ByteArray), 12, (⟨#[65, 110, 110]⟩ : ByteArray)⟩ : S40), (⟨(⟨#[50, 46, 53, 46, 52, 46, 51]⟩ : ByteArray), 19, (⟨#[32, 97, 110, 110]⟩ : ByteArray)⟩ : S40), (⟨(⟨#[50, 46, 53, 46, 52, 46, 51]⟩ : ByteArray), 12, (⟨#[103, 114, 195, 182, 195, 159, 101]⟩ : ByteArray)⟩ : S40), (⟨(⟨#[50, 46, 53, 46, 52, 46, 54]⟩ : ByteArray), 19, (⟨#[85, 83]⟩ : ByteArray)⟩ : S40), (⟨(⟨#[50, 46, 53, 46, 52, 46, 49, 48]⟩ : ByteArray), 19, (⟨#[69, 120, 97, 109, 112, 108, 101, 32, 32, 67, 111, 114, 112]⟩ : ByteArray)⟩ : S40), (⟨(⟨#[50, 46, 53, 46, 52, 46, 49, 48]⟩ : ByteArray), 12, (⟨#[101, 120, 97, 109, 112, 108, 101, 32, 99, 111, 114, 112]⟩ : ByteArray)⟩ : S40), (⟨(⟨#[50, 46, 53, 46, 52, 46, 49, 49]⟩ : ByteArray), 22, (⟨#[97, 44, 98, 43, 99, 61, 100, 92, 101]⟩ : ByteArray)⟩ : S40), (⟨(⟨#[48, 46, 57, 46, 50, 51, 52, 50, 46, 49, 57, 50, 48, 48, 51, 48, 48, 46, 49, 48, 48, 46, 49, 46, 50, 53]⟩ : ByteArray), 22, (⟨#[111, 114, 103]⟩ : ByteArray)⟩ : S40), (⟨(⟨#[49, 46, 50, 46, 56, 52, 48, 46, 49, 49, 51, 53, 52, 57, 46, 49, 46, 57, 46, 49]⟩ : ByteArray), 22, (⟨#[97, 110, 110, 64, 101, 120, 97, 109, 112, 108, 101, 46, 111, 114, 103]⟩ : ByteArray)⟩ : S40), (⟨(⟨#[49, 46, 50, 46, 56, 52, 48, 46, 49, 49, 51, 53, 52, 57, 46, 49, 46, 57, 46, 49]⟩ : ByteArray), 22, (⟨#[110, 111, 32, 97, 100, 100, 114, 101, 115, 115]⟩ : ByteArray)⟩ : S40), (⟨(⟨#[50, 46, 53, 46, 52, 46, 57, 57]⟩ : ByteArray), 19, (⟨#[120]⟩ : ByteArray)⟩ : S40), (⟨(⟨#[50, 46, 53, 46, 52, 46, 55]⟩ : ByteArray), 12, (⟨#[76]⟩ : ByteArray)⟩ : S40)] : List (S40))) (inner := [.string (⟨#[50, 46, 53, 46, 52, 46, 51]⟩ : ByteArray), .int .i64 12, .string (⟨#[65, 110, 110]⟩ : ByteArray), .string (⟨#[50, 46, 53, 46, 52, 46, 51]⟩ : ByteArray), .int .i64 19, .string (⟨#[32, 97, 110, 110]⟩ : ByteArray), .string (⟨#[50, 46, 53, 46, 52, 46, 51]⟩ : ByteArray), .int .i64 12, .string (⟨#[103, 114, 195, 182, 195, 159, 101]⟩ : ByteArray), .string (⟨#[50, 46, 53, 46, 52, 46, 54]⟩ : ByteArray), .int .i64 19, .string (⟨#[85, 83]⟩ : ByteArray), .string (⟨#[50, 46, 53, 46, 52, 46, 49, 48]⟩ : ByteArray), .int .i64 19, .string (⟨#[69, 120, 97, 109, 112, 108, 101, 32, 32, 67, 111, 114, 112]⟩ : ByteArray), .string (⟨#[50, 46, 53, 46, 52, 46, 49, 48]⟩ : ByteArray), .int .i64 12, .string (⟨#[101, 120, 97, 109, 112, 108, 101, 32, 99, 111, 114, 112]⟩ : ByteArray), .string (⟨#[50, 46, 53, 46, 52, 46, 49, 49]⟩ : ByteArray), .int .i64 22, .string (⟨#[97, 44, 98, 43, 99, 61, 100, 92, 101]⟩ : ByteArray), .string (⟨#[48, 46, 57, 46, 50, 51, 52, 50, 46, 49, 57, 50, 48, 48, 51, 48, 48, 46, 49, 48, 48, 46, 49, 46, 50, 53]⟩ : ByteArray), .int .i64 22, .string (⟨#[111, 114, 103]⟩ : ByteArray), .string (⟨#[49, 46, 50, 46, 56, 52, 48, 46, 49, 49, 51, 53, 52, 57, 46, 49, 46, 57, 46, 49]⟩ : ByteArray), .int .i64 22, .string (⟨#[97, 110, 110, 64, 101, 120, 97, 109, 112, 108, 101, 46, 111, 114, 103]⟩ : ByteArray), .string (⟨#[49, 46, 50, 46, 56, 52, 48, 46, 49, 49, 51, 53, 52, 57, 46, 49, 46, 57, 46, 49]⟩ : ByteArray), .int .i64 22, .string (⟨#[110, 111, 32, 97, 100, 100, 114, 101, 115, 115]⟩ : ByteArray), .string (⟨#[50, 46, 53, 46, 52, 46, 57, 57]⟩ : ByteArray), .int .i64 19, .string (⟨#[120]⟩ : ByteArray), .string (⟨#[50, 46, 53, 46, 52, 46, 55]⟩ : ByteArray), .int .i64 12, .string (⟨#[76]⟩ : ByteArray)]) (ok := fun _ => True) (okp := fun _ => True) ?hr ?hp (fun _ hk => hk) trivial (Below.refl _ _) (Nat.le_refl _) yt ?_; (case hd => rfl); (case hg => rfl); (case hr => first | (go_simp; done) | (go_simp; rfl)); (case hp => exact (Reps.c3 (show Kd.M k40 _ _ _ (⟨(⟨#[50, 46, 53, 46, 52, 46, 51]⟩ : ByteArray), 12, (⟨#[65, 110, 110]⟩ : ByteArray)⟩ : S40) [.string (⟨#[50, 46, 53, 46, 52, 46, 51]⟩ : ByteArray), .int .i64 12, .string (⟨#[65, 110, 110]⟩ : ByteArray)] from (k9 _ _ _ (⟨(⟨#[50, 46, 53, 46, 52, 46, 51]⟩ : ByteArray), 12, (⟨#[65, 110, 110]⟩ : ByteArray)⟩ : S40) )) (Reps.c3 (show Kd.M k40 _ _ _ (⟨(⟨#[50, 46, 53, 46, 52, 46, 51]⟩ : ByteArray), 19, (⟨#[32, 97, 110, 110]⟩ : ByteArray)⟩ : S40) [.string (⟨#[50, 46, 53, 46, 52, 46, 51]⟩ : ByteArray), .int .i64 19, .string (⟨#[32, 97, 110, 110]⟩ : ByteArray)] from (k9 _ _ _ (⟨(⟨#[50, 46, 53, 46, 52, 46, 51]⟩ : ByteArray), 19, (⟨#[32, 97, 110, 110]⟩ : ByteArray)⟩ : S40) )) (Reps.c3 (show Kd.M k40 _ _ _ (⟨(⟨#[50, 46, 53, 46, 52, 46, 51]⟩ : ByteArray), 12, (⟨#[103, 114, 195, 182, 195, 159, 101]⟩ : ByteArray)⟩ : S40) [.string (⟨#[50, 46, 53, 46, 52, 46, 51]⟩ : ByteArray), .int .i64 12, .string (⟨#[103, 114, 195, 182, 195, 159, 101]⟩ : ByteArray)] from (k9 _ _ _ (⟨(⟨#[50, 46, 53, 46, 52, 46, 51]⟩ : ByteArray), 12, (⟨#[103, 114, 195, 182, 195, 159, 101]⟩ : ByteArray)⟩ : S40) )) (Reps.c3 (show Kd.M k40 _ _ _ (⟨(⟨#[50, 46, 53, 46, 52, 46, 54]⟩ : ByteArray), 19, (⟨#[85, 83]⟩ : ByteArray)⟩ : S40) [.string (⟨#[50, 46, 53, 46, 52, 46, 54]⟩ : ByteArray), .int .i64 19, .string (⟨#[85, 83]⟩ : ByteArray)] from (k9 _ _ _ (⟨(⟨#[50, 46, 53, 46, 52, 46, 54]⟩ : ByteArray), 19, (⟨#[85, 83]⟩ : ByteArray)⟩ : S40) )) (Reps.c3 (show Kd.M k40 _ _ _ (⟨(⟨#[50, 46, 53, 46, 52, 46, 49, 48]⟩ : ByteArray), 19, (⟨#[69, 120, 97, 109, 112, 108, 101, 32, 32, 67, 111, 114, 112]⟩ : ByteArray)⟩ : S40) [.string (⟨#[50, 46, 53, 46, 52, 46, 49, 48]⟩ : ByteArray), .int .i64 19, .string (⟨#[69, 120, 97, 109, 112, 108, 101, 32, 32, 67, 111, 114, 112]⟩ : ByteArray)] from (k9 _ _ _ (⟨(⟨#[50, 46, 53, 46, 52, 46, 49, 48]⟩ : ByteArray), 19, (⟨#[69, 120, 97, 109, 112, 108, 101, 32, 32, 67, 111, 114, 112]⟩ : ByteArray)⟩ : S40) )) (Reps.c3 (show Kd.M k40 _ _ _ (⟨(⟨#[50, 46, 53, 46, 52, 46, 49, 48]⟩ : ByteArray), 12, (⟨#[101, 120, 97, 109, 112, 108, 101, 32, 99, 111, 114, 112]⟩ : ByteArray)⟩ : S40) [.string (⟨#[50, 46, 53, 46, 52, 46, 49, 48]⟩ : ByteArray), .int .i64 12, .string (⟨#[101, 120, 97, 109, 112, 108, 101, 32, 99, 111, 114, 112]⟩ : ByteArray)] from (k9 _ _ _ (⟨(⟨#[50, 46, 53, 46, 52, 46, 49, 48]⟩ : ByteArray), 12, (⟨#[101, 120, 97, 109, 112, 108, 101, 32, 99, 111, 114, 112]⟩ : ByteArray)⟩ : S40) )) (Reps.c3 (show Kd.M k40 _ _ _ (⟨(⟨#[50, 46, 53, 46, 52, 46, 49, 49]⟩ : ByteArray), 22, (⟨#[97, 44, 98, 43, 99, 61, 100, 92, 101]⟩ : ByteArray)⟩ : S40) [.string (⟨#[50, 46, 53, 46, 52, 46, 49, 49]⟩ : ByteArray), .int .i64 22, .string (⟨#[97, 44, 98, 43, 99, 61, 100, 92, 101]⟩ : ByteArray)] from (k9 _ _ _ (⟨(⟨#[50, 46, 53, 46, 52, 46, 49, 49]⟩ : ByteArray), 22, (⟨#[97, 44, 98, 43, 99, 61, 100, 92, 101]⟩ : ByteArray)⟩ : S40) )) (Reps.c3 (show Kd.M k40 _ _ _ (⟨(⟨#[48, 46, 57, 46, 50, 51, 52, 50, 46, 49, 57, 50, 48, 48, 51, 48, 48, 46, 49, 48, 48, 46, 49, 46, 50, 53]⟩ : ByteArray), 22, (⟨#[111, 114, 103]⟩ : ByteArray)⟩ : S40) [.string (⟨#[48, 46, 57, 46, 50, 51, 52, 50, 46, 49, 57, 50, 48, 48, 51, 48, 48, 46, 49, 48, 48, 46, 49, 46, 50, 53]⟩ : ByteArray), .int .i64 22, .string (⟨#[111, 114, 103]⟩ : ByteArray)] from (k9 _ _ _ (⟨(⟨#[48, 46, 57, 46, 50, 51, 52, 50, 46, 49, 57, 50, 48, 48, 51, 48, 48, 46, 49, 48, 48, 46, 49, 46, 50, 53]⟩ : ByteArray), 22, (⟨#[111, 114, 103]⟩ : ByteArray)⟩ : S40) )) (Reps.c3 (show Kd.M k40 _ _ _ (⟨(⟨#[49, 46, 50, 46, 56, 52, 48, 46, 49, 49, 51, 53, 52, 57, 46, 49, 46, 57, 46, 49]⟩ : ByteArray), 22, (⟨#[97, 110, 110, 64, 101, 120, 97, 109, 112, 108, 101, 46, 111, 114, 103]⟩ : ByteArray)⟩ : S40) [.string (⟨#[49, 46, 50, 46, 56, 52, 48, 46, 49, 49, 51, 53, 52, 57, 46, 49, 46, 57, 46, 49]⟩ : ByteArray), .int .i64 22, .string (⟨#[97, 110, 110, 64, 101, 120, 97, 109, 112, 108, 101, 46, 111, 114, 103]⟩ : ByteArray)] from (k9 _ _ _ (⟨(⟨#[49, 46, 50, 46, 56, 52, 48, 46, 49, 49, 51, 53, 52, 57, 46, 49, 46, 57, 46, 49]⟩ : ByteArray), 22, (⟨#[97, 110, 110, 64, 101, 120, 97, 109, 112, 108, 101, 46, 111, 114, 103]⟩ : ByteArray)⟩ : S40) )) (Reps.c3 (show Kd.M k40 _ _ _ (⟨(⟨#[49, 46, 50, 46, 56, 52, 48, 46, 49, 49, 51, 53, 52, 57, 46, 49, 46, 57, 46, 49]⟩ : ByteArray), 22, (⟨#[110, 111, 32, 97, 100, 100, 114, 101, 115, 115]⟩ : ByteArray)⟩ : S40) [.string (⟨#[49, 46, 50, 46, 56, 52, 48, 46, 49, 49, 51, 53, 52, 57, 46, 49, 46, 57, 46, 49]⟩ : ByteArray), .int .i64 22, .string (⟨#[110, 111, 32, 97, 100, 100, 114, 101, 115, 115]⟩ : ByteArray)] from (k9 _ _ _ (⟨(⟨#[49, 46, 50, 46, 56, 52, 48, 46, 49, 49, 51, 53, 52, 57, 46, 49, 46, 57, 46, 49]⟩ : ByteArray), 22, (⟨#[110, 111, 32, 97, 100, 100, 114, 101, 115, 115]⟩ : ByteArray)⟩ : S40) )) (Reps.c3 (show Kd.M k40 _ _ _ (⟨(⟨#[50, 46, 53, 46, 52, 46, 57, 57]⟩ : ByteArray), 19, (⟨#[120]⟩ : ByteArray)⟩ : S40) [.string (⟨#[50, 46, 53, 46, 52, 46, 57, 57]⟩ : ByteArray), .int .i64 19, .string (⟨#[120]⟩ : ByteArray)] from (k9 _ _ _ (⟨(⟨#[50, 46, 53, 46, 52, 46, 57, 57]⟩ : ByteArray), 19, (⟨#[120]⟩ : ByteArray)⟩ : S40) )) (Reps.c3 (show Kd.M k40 _ _ _ (⟨(⟨#[50, 46, 53, 46, 52, 46, 55]⟩ : ByteArray), 12, (⟨#[76]⟩ : ByteArray)⟩ : S40) [.string (⟨#[50, 46, 53, 46, 52, 46, 55]⟩ : ByteArray), .int .i64 12, .string (⟨#[76]⟩ : ByteArray)] from (k9 _ _ _ (⟨(⟨#[50, 46, 53, 46, 52, 46, 55]⟩ : ByteArray), 12, (⟨#[76]⟩ : ByteArray)⟩ : S40) )) (Reps.none _ _)))))))))))))); intro v282 w6 ho7 hb hg_ hnew_; clear hg_ hnew_; (first | rw [← Ny281.out] at ho7 | (simp only [Int.reduceToNat] at ho7; rw [← Ny281.out] at ho7)); have n0_ := qa.mk (Kd.R_lower (Kd.R_newB ho7 (g := gb280) (o := .cells #[.string (⟨#[]⟩ : ByteArray), .int .i64 0, .string (⟨#[]⟩ : ByteArray)] 40 (0, 0)) caj) (keep_size (w := w) (g := g) (row := none) cae)); have n1_ := qa.mk (zw.below (by repeat (first | (with_reducible first | exact HI0.out | apply zw.alloc | apply zw.drewN | apply zw.drew | apply zw.set_1 | refine zw.far ?_ NB0_280.out _) | exact HI0.out)) hb); have n2_ := qa.mk (q9 (g := gb280) (o := .cells #[.string (⟨#[]⟩ : ByteArray), .int .i64 0, .string (⟨#[]⟩ : ByteArray)] 40 (0, 0)) caj hb); have n3_ := qa.mk (KeepBut.trans cae (KeepBut.of_below hb g none) (.inl rfl)); have n4_ := qa.mk (qp (by repeat (first | (with_reducible first | exact HB.out | apply qc | apply qb | apply qd | refine qe ?_ (zw.ge HI0.out) | refine qe ?_ GE280.out) | exact HB.out)) hb); clear HI0; clear BK280; clear HK; clear HB; have HO283 := n0_; have HI0 := n1_; have BK280 := n2_; have HK := n3_; have HB := n4_; clear n0_ n1_ n2_ n3_ n4_; clear hb ho7) | ((with_reducible refine zn (f := 18) rfl ?_); refine kd (some 17) rfl rfl Tryz.func18 yj rfl #[.pointer (some ⟨g, 0, none⟩), .int .i64 12] rfl yc ?_; (with_reducible refine (xy.calls g s0_0 s0_1 12 t284 t285 w0 _ ?side1 ?side2 A2.out).mono ?_); (case side1 => repeat (first | (with_reducible first | exact HI0.out | apply zw.alloc | apply zw.drewN | apply zw.drew | apply zw.set_1 | refine zw.far ?_ NB0_280.out _) | exact HI0.out)); (case side2 => repeat (first | (with_reducible first | exact HB.out | apply qc | apply qb | apply qd | refine qe ?_ (zw.ge HI0.out) | refine qe ?_ GE280.out) | exact HB.out)); rintro e w8 ⟨rfl, hi, hb, hk⟩; refine ⟨_, rfl, ?_⟩; have n0_ := qa.mk (KeepBut.blk hk (g' := gb280) (o := .cells #[.string (⟨#[]⟩ : ByteArray), .int .i64 0, .string (⟨#[]⟩ : ByteArray)] 40 (0, 0)) caj NB280_0.out yt); have n1_ := qa.mk (Kd.kn (Kd.R_keep (zw.apart (show zw w0 _ g s0_0 s0_1 from by repeat (first | (with_reducible first | exact HI0.out | apply zw.alloc | apply zw.drewN | apply zw.drew | apply zw.set_1 | refine zw.far ?_ NB0_280.out _) | exact HI0.out)) (by (with_reducible repeat (first | apply Kd.zh | apply Kd.zg | apply Kd.zr)); exact HO283.out) (by decide)) hk (fun _ h => h.2)) (fun _ h => h.1)); have n2_ := qa.mk (KeepBut.trans cae hk (.inl rfl)); have n3_ := qa.mk (hb); have n4_ := qa.mk (hi); clear BK280; clear HO283; clear HK; clear HB; clear HI0; have BK280 := n0_; have HO283 := n1_; have HK := n2_; have HB := n3_; have HI0 := n4_; clear n0_ n1_ n2_ n3_ n4_; (try clear hb); (try clear hb2); (try clear hk); (try clear hi); obtain ⟨Ao9, co9, eo9⟩ := Kd.kj HO283.out; subst eo9; have p286 : 0 ≤ (t284 : Int) := of_decide_eq_true cz; have q286 : t284 < (y281.length : Int) := of_decide_eq_true cz; obtain ⟨ad286, e286, hx286_0, hx286_1, hx286_2⟩ := k5 (Kd.xp HO283.out).2.2 t284 p286 q286; cases e286; replace p286 := eq_true p286; replace q286 := eq_true q286; have hnb10 := NB280_0.out; have hnc10 := NB0_280.out; have hcz11_0 : w8.cell? ⟨gb280, 0, none⟩ = some (.string (⟨#[]⟩ : ByteArray)) := (ql BK280.out 0).trans rfl; have hcz11_1 : w8.cell? ⟨gb280, 1, none⟩ = some (.int .i64 0) := (ql BK280.out 1).trans rfl; have hcz11_2 : w8.cell? ⟨gb280, 2, none⟩ = some (.string (⟨#[]⟩ : ByteArray)) := (ql BK280.out 2).trans rfl; have hfz11_0 := qo BK280.out 0; have hfz11_1 := qo BK280.out 1; have hfz11_2 := qo BK280.out 2))
   refine bodyPost_ret (results_cell_row rfl _ _ gb280 40 #[.string ((qn y281 t284).f0), .int .i64 ((qn y281 t284).f1), .string ((qn y281 t284).f2)] (0, 0) _ rfl (by (with_reducible repeat (first | refine qg ?_ _ | refine qi ?_ | refine qf ?_ _)); refine zu (cs := #[.string ((qn y281 t284).f0), .int .i64 ((qn y281 t284).f1), .string (⟨#[]⟩ : ByteArray)]) ?_ 2 _ rfl; (with_reducible repeat (first | refine qg ?_ _ | refine qi ?_ | refine qf ?_ _)); refine zu (cs := #[.string ((qn y281 t284).f0), .int .i64 0, .string (⟨#[]⟩ : ByteArray)]) ?_ 1 _ rfl; (with_reducible repeat (first | refine qg ?_ _ | refine qi ?_ | refine qf ?_ _)); refine zu (cs := #[.string (⟨#[]⟩ : ByteArray), .int .i64 0, .string (⟨#[]⟩ : ByteArray)]) ?_ 0 _ rfl; (with_reducible repeat (first | refine qg ?_ _ | refine qi ?_ | refine qf ?_ _)); exact BK280.out) Tryz.underlying40 rfl yj) rfl ?_
   exact ⟨by first | rfl | (simp [qu, qt] <;> rfl) | (simp [*, qu, qt] <;> rfl), by repeat (first | (with_reducible first | exact HI0.out | apply zw.alloc | apply zw.drewN | apply zw.drew | apply zw.set_1 | refine zw.far ?_ NB0_280.out _) | exact HI0.out), by repeat (first | (with_reducible first | exact HB.out | apply qc | apply qb | apply qd | refine qe ?_ (zw.ge HI0.out) | refine qe ?_ GE280.out) | exact HB.out), by repeat (first | (with_reducible first | exact HK.out | apply KeepBut.set_ | apply keep_drewN | apply keep_drew | apply keep_alloc | refine keep_far ?_ GW280.out _) | exact HK.out)⟩
  ·rw [if_neg c4] at H
   exact absurd H yt
 ·rw [if_neg c3] at H
  exact absurd H yt
def strings_Join.f (a0 : List ByteArray) (a1 : ByteArray) : Option ByteArray := if a0.length ≤ 140737488355328 ∧ (Lib.join (a0.map (·.data.toList)) a1.data.toList).length ≤ 140737488355328 then some ⟨(Lib.join (a0.map (·.data.toList)) a1.data.toList).toArray⟩ else none
theorem str_cells {w : World} {A : Option Addr} {l : List ByteArray} (h : Kd.C Kd.string w A l.length l) (hl : 0 < l.length) : ∃ b o, A = some ⟨b, o, none⟩ ∧ b < w.heap.size ∧ ∀ (j : Nat) x, l[j]? = some x → w.cell? ⟨b, o + j, none⟩ = some (.string x) := by
 obtain ⟨ad, rfl, hc⟩ := h.2.2 hl
 have cell : ∀ (j : Nat) x, l[j]? = some x → w.cell? (ad.add j) = some (.string x) := fun j x hj => by
  obtain ⟨c, hlen, hK, hcell⟩ := hc j x hj
  have hc1 : c = [.string x] := hK
  subst hc1
  have := hcell 0 (.string x) rfl
  rwa [show j * Kd.string.sz + 0 = j from by rw [show Kd.string.sz = 1 from rfl, Nat.mul_one, Nat.add_zero]] at this
 obtain ⟨b, o, s⟩ := ad
 have h0 := cell 0 l[0] (List.getElem?_eq_getElem hl)
 rw [Addr.add_zero'] at h0
 have hb := World.block_lt_of_cell? w _ h0
 have hs : s = none := by
  cases s with
  | none => rfl
  | some v =>
   exfalso
   unfold World.cell? at h0
   split at h0
   ·simp at h0
   ·cases h0
 subst hs
 refine ⟨b, o, rfl, hb, fun j x hj => ?_⟩
 ·have := cell j x hj
  rwa [show (⟨b, o, none⟩ : Addr).add j = ⟨b, o + j, none⟩ from by unfold Addr.add; split <;> simp_all] at this
theorem strings_Join.calls (A0 : Option Addr) (c0 : Nat) (l0 : List ByteArray) (a1 : ByteArray) (r : ByteArray) (w : World) (hr0 : Kd.C Kd.string w A0 l0.length l0) (hc0 : l0.length ≤ c0) (h : strings_Join.f l0 a1 = some r) :
  Calls Tryz.prog 53 #[.slice A0 l0.length c0, .string a1] w fun e w' => e = .returned (.string r) ∧ Below w.heap.size w w' := by
 unfold strings_Join.f at h
 split at h
 case isFalse => exact absurd h yt
 rename_i hn
 obtain rfl := Option.some.inj h
 clear h
 rcases l0 with _ | ⟨x, l'⟩
 ·refine (Tryz.strings_Join_none A0 c0 a1 w).mono fun e w' ⟨he, hw⟩ => ?_
  subst hw
  exact ⟨he, Below.refl _ _⟩
 ·obtain ⟨b, o, rfl, hb, hcell⟩ := str_cells hr0 yt
  exact (Tryz.strings_Join b o c0 (x :: l') a1 w hcell hb hn.1 hc0 hn.2).mono fun e w' ⟨he, hw⟩ => ⟨he, hw⟩
end Go.Proofs.YthdoohfdminfgaaGreatDoor.C
end
section
namespace Go.Proofs.YthdoohfdminfgaaGreatDoor.C
open Go.RowKit Go.Proofs.YthdoohfdminfgaaGreatDoorW.PrintWords Go.Proofs.YthdoohfdminfgaaGreatDoorW.PrintLast Go.Proofs.YthdoohfdminfgaaGreatDoorW.PrintMore
attribute [local go_sem] xa z7 xq xr zx zy xc z8
set_option linter.unusedVariables false
set_option linter.unusedSimpArgs false
end Go.Proofs.YthdoohfdminfgaaGreatDoor.C
end
section
namespace Go.Proofs.YthdoohfdminfgaaGreatDoor.C
open Go.RowKit Go.Proofs.YthdoohfdminfgaaGreatDoorW.PrintWords Go.Proofs.YthdoohfdminfgaaGreatDoorW.PrintLast Go.Proofs.YthdoohfdminfgaaGreatDoorW.PrintMore
attribute [local go_sem] xa z7 xq xr zx zy xc z8
set_option linter.unusedVariables false
set_option linter.unusedSimpArgs false
end Go.Proofs.YthdoohfdminfgaaGreatDoor.C
end
