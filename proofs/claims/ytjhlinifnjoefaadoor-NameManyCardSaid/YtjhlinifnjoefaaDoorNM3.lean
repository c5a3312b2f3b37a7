/- Words, walks and plain laws that the claim rests on, gathered. -/
import Derived.Lib.ConvBytes
import Derived.Shelf.Small.Strs
import Derived.Shelf.Strings.Search1
import Derived.Shelf.Strings.Search2
import Derived.Shelf.Strings.Search3
import Derived.Shelf.Strings.Cut
import Derived.Shelf.Strings.Count
import Derived.Shelf.LaysM
import Derived.Shelf.Strings.Shaped
import Derived.Shelf.Strings.Prefix
import Derived.Shelf.Strings.Split
import Derived.Shelf.Strings.SplitShaped
import Derived.Shelf.Unicode.DecodeSlow
import Derived.Test.YtjhlinifnjoefaaDoorProg
import Derived.Laws.StructEq
import Derived.WalkSpells
import Derived.Below
import Derived.Deep.Draws
import Derived.Deep.AppendLies
import Derived.Maps.AppendAt
import Derived.OwnWalk
import Derived.Laws.BytesArg
import Derived.Laws.MakeOwn
import Derived.Laws.OwnMore
import Derived.Deep.OwnRows
import Derived.Tactics
import Derived.Laws.Slices
import Derived.WalkKit
import Derived.KernelRfl
import Derived.RowKit3
import Derived.Deep.LoopGhost
import Derived.Deep.QuietTactic
import Derived.BigQuiet
import Derived.WideLaws
import Derived.Deep.DeepCutAuto
import Derived.Deep.CutBlock
import Derived.Deep.RegionHeld3
import Derived.Laws.Rows
import Derived.Lib.AppendStr
import Derived.ArgAppend
import Derived.Laws.IdiomCopy
import Derived.OrdersHeld
import Derived.Laws.BitsLemmas
import Derived.RowKit
import Derived.Test.YtjhlinifnjoefaaDoorNM0
import Derived.Test.YtjhlinifnjoefaaDoorNM1
import Derived.Test.YtjhlinifnjoefaaDoorNM2
namespace Go.Proofs.YtjhlinifnjoefaaDoorW.PrintLast
end Go.Proofs.YtjhlinifnjoefaaDoorW.PrintLast
namespace Go.Proofs.YtjhlinifnjoefaaDoorW.PrintMore
end Go.Proofs.YtjhlinifnjoefaaDoorW.PrintMore
namespace Go.Proofs.YtjhlinifnjoefaaDoorW.PrintWords
end Go.Proofs.YtjhlinifnjoefaaDoorW.PrintWords
section
namespace Go.Proofs.YtjhlinifnjoefaaDoor.C
open Go.RowKit Go.Proofs.YtjhlinifnjoefaaDoorW.PrintWords Go.Proofs.YtjhlinifnjoefaaDoorW.PrintLast Go.Proofs.YtjhlinifnjoefaaDoorW.PrintMore
attribute [local go_sem] xf xd xm xn z7 z6 xc xe
set_option linter.unusedVariables false
set_option linter.unusedSimpArgs false
def zt.l0 : Nat → List (S26) → Int → Int → ByteArray → Int → ByteArray → Option (Bool)
 | 0, _, _, _, _, _, _ => none
 | k + 1, x7, x8, x9, x127000, x127001, x127002 => if x9 < x8 then (if 0 ≤ x9 then (if x9 < (x7.length : Int) then (if x127000.toList = ((qm x7 x9).f0).toList then ((xy.f k x127002 ((qm x7 x9).f2)).bind fun t129 => (if t129 = true then (some true) else (zt.l0 k x7 x8 (wrap64 (x9 + 1)) x127000 x127001 x127002))) else (zt.l0 k x7 x8 (wrap64 (x9 + 1)) x127000 x127001 x127002)) else (none)) else (none)) else (some false)
def zt.f (k : Nat) (l0 : List (S26)) (a1_0 : ByteArray) (a1_1 : Int) (a1_2 : ByteArray) : Option (Bool) := zt.l0 k l0 (l0.length : Int) 0 a1_0 a1_1 a1_2
theorem zt.zy : ∀ k, (∀ y0 y1 y2 y3 y4 y5, LeO (zt.l0 k y0 y1 y2 y3 y4 y5) (zt.l0 (k + 1) y0 y1 y2 y3 y4 y5))
 | 0 => fun _ _ _ _ _ _ r h => by simp [zt.l0] at h
 | k + 1 => by
  have ih0 := zt.zy k
  ·intro y0 y1 y2 y3 y4 y5
   unfold zt.l0
   repeat' first
   | (with_reducible exact ih0 _ _ _ _ _ _)
   | (with_reducible exact xy.mono _ _ _)
   | (with_reducible exact LeO.refl _)
   | (with_reducible exact LeO.none _)
   | (with_reducible refine LeO.ite ?_ ?_)
   | (with_reducible refine LeO.bind ?_ (fun _ => ?_))
theorem zt.mono : ∀ a0 a1 a2 a3 k, LeO (zt.f k a0 a1 a2 a3) (zt.f (k + 1) a0 a1 a2 a3) := by
 intro a0 a1 a2 a3 k
 have ih0 := zt.zy k
 unfold zt.f
 repeat' first
   | (with_reducible exact ih0 _ _ _ _ _ _)
   | (with_reducible exact xy.mono _ _ _)
   | (with_reducible exact LeO.refl _)
   | (with_reducible exact LeO.none _)
   | (with_reducible refine LeO.ite ?_ ?_)
   | (with_reducible refine LeO.bind ?_ (fun _ => ?_))
set_option maxHeartbeats 8000000 in
set_option maxRecDepth 100000 in
theorem zt.calls (k : Nat) (A0 : Option Addr) (c0 : Nat) (l0 : List (S26)) (a1_0 : ByteArray) (a1_1 : Int) (a1_2 : ByteArray) (r : Bool) (w : World) (hr0 : Kd.C k26 w A0 l0.length l0) (hc0 : l0.length ≤ c0) (h : zt.f k l0 a1_0 a1_1 a1_2 = some r) :
  Calls Tryd.prog 32 #[.slice A0 l0.length c0, .agg #[.string a1_0, .int .i64 a1_1, .string a1_2]] w fun e w' => e = .returned (.bool r) ∧ Below w.heap.size w w' := by
 have hu26 := Tryd.underlying26
 have HR0 := qb.mk hr0
 have HC0 := qb.mk hc0
 clear hr0 hc0
 have HB := qb.mk (Below.refl w.heap.size w)
 have H : (zt.l0 k l0 (l0.length : Int) 0 a1_0 a1_1 a1_2) = some r := h
 clear h
 have H' := qb.mk H
 clear H
 go_enter Tryd.func32, Tryd.ntmps32
 go_wp2_with (first | ((with_reducible refine zl (N := 3) rfl ?_); refine zi ?hg (N := 3) ?hd (cs := #[.string a1_0, .int .i64 a1_1, .string a1_2]) (t := 26) ?hr ?_; (case hd => rfl); (case hg => rfl); (case hr => first | (go_simp; done) | (go_simp; rfl)); intro gb126 hg w3 hbox hb; have n0_ := qb.mk (qr (by repeat (first | (with_reducible first | exact HB.out | apply qc | apply qa | apply qd) | exact HB.out)) hb); have n1_ := qb.mk (hbox); have n2_ := qb.mk ((by rw [hg]; exact (qt (by repeat (first | (with_reducible first | exact HB.out | apply qc | apply qa | apply qd) | exact HB.out))) : w.heap.size ≤ gb126)); have n3_ := qb.mk ((by rw [hg]; exact (qt (by repeat (first | (with_reducible first | exact HB.out | apply qc | apply qa | apply qd) | exact HB.out))) : w.heap.size ≤ gb126)); clear HB; have HB := n0_; have BK126 := n1_; have GW126 := n2_; have GE126 := n3_; clear n0_ n1_ n2_ n3_; clear hb hbox hg))
 go_loopg [9] k (fun kq v9 w' => ∃ (x9_1 : Int), v9 = .int .i64 x9_1 ∧ qb (zt.l0 kq l0 (l0.length : Int) x9_1 a1_0 a1_1 a1_2 = some r) ∧ qb (kq ≤ k) ∧ qb (w'.heap[gb126]? = some (.cells #[.string a1_0, .int .i64 a1_1, .string a1_2] 26 (0, 0))) ∧ qb (Below w.heap.size w w'))
 case atStart => exact ⟨(0), (by first | rfl | (simp; done) | (simp [*]; done)), H', ⟨Nat.le_refl _⟩, ⟨by (with_reducible repeat (first | refine qi ?_ _ | refine ql ?_ | refine qg ?_ _)); exact BK126.out⟩, ⟨by repeat (first | (with_reducible first | exact HB.out | apply qc | apply qa | apply qd | refine qh ?_ GE126.out) | exact HB.out)⟩⟩
 case round =>
  clear H'
  (try clear p2); try clear c3
  obtain ⟨x9_1, rfl, HA, HK1, BK126, HB⟩ := hrel
  cases gk with
  | zero => exact absurd HA.out (by simp [zt.l0])
  | succ k1 =>
   have H := HA.out
   clear HA
   simp only [zt.l0] at H
   by_cases c4 : x9_1 < (l0.length : Int)
   ·rw [if_pos c4] at H
    have c4b0 : decide (x9_1 < (l0.length : Int)) = true := decide_eq_true c4
    clear c4
    by_cases c5 : 0 ≤ x9_1
    ·rw [if_pos c5] at H
     have c5b0 : decide (0 ≤ x9_1) = true := decide_eq_true c5
     clear c5
     by_cases c6 : x9_1 < (l0.length : Int)
     ·rw [if_pos c6] at H
      have c6b0 : decide (x9_1 < (l0.length : Int)) = true := decide_eq_true c6
      clear c6
      by_cases c7 : a1_0.toList = ((qm l0 x9_1).f0).toList
      ·rw [if_pos c7] at H
       have c7b0 : (a1_0.toList == ((qm l0 x9_1).f0).toList) = true := beq_iff_eq.mpr c7
       have c7b1 : (a1_0.toList != ((qm l0 x9_1).f0).toList) = false := bne_eq_false_iff_eq.mpr c7
       clear c7
       replace H := Option.bind_eq_some_iff.mp H
       obtain ⟨t129, A80, H⟩ := H
       replace H : (if t129 = true then (some true) else (zt.l0 k1 l0 (l0.length : Int) (wrap64 (x9_1 + 1)) a1_0 a1_1 a1_2)) = some r := H
       have A8 := qb.mk A80
       clear A80
       by_cases c9 : t129 = true
       ·subst c9
        have H1 : (some true) = some r := by rw [if_pos rfl] at H; exact H
        clear H
        have H := H1
        clear H1
        obtain rfl := Option.some.inj H
        have p127 : 0 ≤ (x9_1 : Int) := of_decide_eq_true (by first | (with_reducible assumption) | assumption)
        have q127 : x9_1 < (l0.length : Int) := of_decide_eq_true (by first | (with_reducible assumption) | assumption)
        obtain ⟨ad127, e127, hx127_0, hx127_1, hx127_2⟩ := at_T26 HR0.out x9_1 p127 q127
        cases e127
        replace hx127_0 := (HB.out.cell (World.block_lt_of_cell? w _ hx127_0)).trans hx127_0
        replace hx127_1 := (HB.out.cell (World.block_lt_of_cell? w _ hx127_1)).trans hx127_1
        replace hx127_2 := (HB.out.cell (World.block_lt_of_cell? w _ hx127_2)).trans hx127_2
        replace p127 := eq_true p127
        replace q127 := eq_true q127
        go_wp2_with (first | ((with_reducible refine zl (N := 6) rfl ?_); refine zi ?hg (N := 6) ?hd (cs := #[.string (⟨#[]⟩ : ByteArray), .int .i64 0, .string (⟨#[]⟩ : ByteArray)]) (t := 26) ?hr ?_; (case hd => rfl); (case hg => rfl); (case hr => first | (go_simp; done) | (go_simp; rfl)); intro gb128 hg w10 hbox hb; have n0_ := qb.mk (qz (g := gb126) (o := .cells #[.string a1_0, .int .i64 a1_1, .string a1_2] 26 (0, 0)) (by (with_reducible repeat (first | refine qi ?_ _ | refine ql ?_ | refine qg ?_ _)); exact BK126.out) hb); have n1_ := qb.mk (qr (by repeat (first | (with_reducible first | exact HB.out | apply qc | apply qa | apply qd | refine qh ?_ GE126.out) | exact HB.out)) hb); have n2_ := qb.mk (hbox); have n3_ := qb.mk ((by rw [hg]; exact (qt (by repeat (first | (with_reducible first | exact HB.out | apply qc | apply qa | apply qd | refine qh ?_ GE126.out) | exact HB.out))) : w.heap.size ≤ gb128)); have n4_ := qb.mk ((by rw [hg]; exact (qt (by repeat (first | (with_reducible first | exact HB.out | apply qc | apply qa | apply qd | refine qh ?_ GE126.out) | exact HB.out))) : w.heap.size ≤ gb128)); have n5_ := qb.mk ((by rw [hg]; exact Nat.ne_of_lt (z8 (g := gb126) (o := .cells #[.string a1_0, .int .i64 a1_1, .string a1_2] 26 (0, 0)) (by (with_reducible repeat (first | refine qi ?_ _ | refine ql ?_ | refine qg ?_ _)); exact BK126.out)) : gb126 ≠ gb128)); have n6_ := qb.mk ((by rw [hg]; exact Nat.ne_of_gt (z8 (g := gb126) (o := .cells #[.string a1_0, .int .i64 a1_1, .string a1_2] 26 (0, 0)) (by (with_reducible repeat (first | refine qi ?_ _ | refine ql ?_ | refine qg ?_ _)); exact BK126.out)) : gb128 ≠ gb126)); clear BK126; clear HB; have BK126 := n0_; have HB := n1_; have BK128 := n2_; have GW128 := n3_; have GE128 := n4_; have NB126_128 := n5_; have NB128_126 := n6_; clear n0_ n1_ n2_ n3_ n4_ n5_ n6_; clear hb hbox hg; have hnb11 := NB128_126.out; have hnc11 := NB126_128.out; have hcz12_0 : w10.cell? ⟨gb128, 0, none⟩ = some (.string (⟨#[]⟩ : ByteArray)) := (qq BK128.out 0).trans rfl; have hcz12_1 : w10.cell? ⟨gb128, 1, none⟩ = some (.int .i64 0) := (qq BK128.out 1).trans rfl; have hcz12_2 : w10.cell? ⟨gb128, 2, none⟩ = some (.string (⟨#[]⟩ : ByteArray)) := (qq BK128.out 2).trans rfl; have hfz12_0 := qo BK128.out 0; have hfz12_1 := qo BK128.out 1; have hfz12_2 := qo BK128.out 2; have hcz13_0 : w10.cell? ⟨gb126, 0, none⟩ = some (.string a1_0) := (qq BK126.out 0).trans rfl; have hcz13_1 : w10.cell? ⟨gb126, 1, none⟩ = some (.int .i64 a1_1) := (qq BK126.out 1).trans rfl; have hcz13_2 : w10.cell? ⟨gb126, 2, none⟩ = some (.string a1_2) := (qq BK126.out 2).trans rfl; have hfz13_0 := qo BK126.out 0; have hfz13_1 := qo BK126.out 1; have hfz13_2 := qo BK126.out 2) | (go_at_call 49; (with_reducible refine (xy.calls k1 a1_2 ((qm l0 x9_1).f2) true _ A8.out).mono ?_); rintro e w14 ⟨rfl, hb⟩; have n0_ := qb.mk (qz (g := gb126) (o := .cells #[.string a1_0, .int .i64 a1_1, .string a1_2] 26 (0, 0)) (by (with_reducible repeat (first | refine qi ?_ _ | refine ql ?_ | refine qg ?_ _)); refine xl ?_ NB126_128.out _; (with_reducible repeat (first | refine qi ?_ _ | refine ql ?_ | refine qg ?_ _)); refine xl ?_ NB126_128.out _; (with_reducible repeat (first | refine qi ?_ _ | refine ql ?_ | refine qg ?_ _)); refine xl ?_ NB126_128.out _; (with_reducible repeat (first | refine qi ?_ _ | refine ql ?_ | refine qg ?_ _)); exact BK126.out) hb); have n1_ := qb.mk (qz (g := gb128) (o := .cells #[.string ((qm l0 x9_1).f0), .int .i64 ((qm l0 x9_1).f1), .string ((qm l0 x9_1).f2)] 26 (0, 0)) (by (with_reducible repeat (first | refine qi ?_ _ | refine ql ?_ | refine qg ?_ _)); refine zj (cs := #[.string ((qm l0 x9_1).f0), .int .i64 ((qm l0 x9_1).f1), .string (⟨#[]⟩ : ByteArray)]) ?_ 2 _ rfl; (with_reducible repeat (first | refine qi ?_ _ | refine ql ?_ | refine qg ?_ _)); refine zj (cs := #[.string ((qm l0 x9_1).f0), .int .i64 0, .string (⟨#[]⟩ : ByteArray)]) ?_ 1 _ rfl; (with_reducible repeat (first | refine qi ?_ _ | refine ql ?_ | refine qg ?_ _)); refine zj (cs := #[.string (⟨#[]⟩ : ByteArray), .int .i64 0, .string (⟨#[]⟩ : ByteArray)]) ?_ 0 _ rfl; (with_reducible repeat (first | refine qi ?_ _ | refine ql ?_ | refine qg ?_ _)); exact BK128.out) hb); have n2_ := qb.mk (qr (by repeat (first | (with_reducible first | exact HB.out | apply qc | apply qa | apply qd | refine qh ?_ GE126.out | refine qh ?_ GE128.out) | exact HB.out)) hb); clear BK126; clear BK128; clear HB; have BK126 := n0_; have BK128 := n1_; have HB := n2_; clear n0_ n1_ n2_; (try clear hb); (try clear hb2); (try clear hk); (try clear hi)))
        go_ret
        exact ⟨by first | rfl | (simp [qv, qu] <;> rfl) | (simp [*, qv, qu] <;> rfl), by repeat (first | (with_reducible first | exact HB.out | apply qc | apply qa | apply qd | refine qh ?_ GE126.out | refine qh ?_ GE128.out) | exact HB.out)⟩
       ·replace c9 := Bool.eq_false_iff.mpr c9
        subst c9
        have H1 : (zt.l0 k1 l0 (l0.length : Int) (wrap64 (x9_1 + 1)) a1_0 a1_1 a1_2) = some r := by rw [if_neg (show ¬ (false = true) by decide)] at H; exact H
        clear H
        have H := H1
        clear H1
        have H' := qb.mk H
        clear H
        have p127 : 0 ≤ (x9_1 : Int) := of_decide_eq_true (by first | (with_reducible assumption) | assumption)
        have q127 : x9_1 < (l0.length : Int) := of_decide_eq_true (by first | (with_reducible assumption) | assumption)
        obtain ⟨ad127, e127, hx127_0, hx127_1, hx127_2⟩ := at_T26 HR0.out x9_1 p127 q127
        cases e127
        replace hx127_0 := (HB.out.cell (World.block_lt_of_cell? w _ hx127_0)).trans hx127_0
        replace hx127_1 := (HB.out.cell (World.block_lt_of_cell? w _ hx127_1)).trans hx127_1
        replace hx127_2 := (HB.out.cell (World.block_lt_of_cell? w _ hx127_2)).trans hx127_2
        replace p127 := eq_true p127
        replace q127 := eq_true q127
        go_wp2_with (first | ((with_reducible refine zl (N := 6) rfl ?_); refine zi ?hg (N := 6) ?hd (cs := #[.string (⟨#[]⟩ : ByteArray), .int .i64 0, .string (⟨#[]⟩ : ByteArray)]) (t := 26) ?hr ?_; (case hd => rfl); (case hg => rfl); (case hr => first | (go_simp; done) | (go_simp; rfl)); intro gb128 hg w15 hbox hb; have n0_ := qb.mk (qz (g := gb126) (o := .cells #[.string a1_0, .int .i64 a1_1, .string a1_2] 26 (0, 0)) (by (with_reducible repeat (first | refine qi ?_ _ | refine ql ?_ | refine qg ?_ _)); exact BK126.out) hb); have n1_ := qb.mk (qr (by repeat (first | (with_reducible first | exact HB.out | apply qc | apply qa | apply qd | refine qh ?_ GE126.out) | exact HB.out)) hb); have n2_ := qb.mk (hbox); have n3_ := qb.mk ((by rw [hg]; exact (qt (by repeat (first | (with_reducible first | exact HB.out | apply qc | apply qa | apply qd | refine qh ?_ GE126.out) | exact HB.out))) : w.heap.size ≤ gb128)); have n4_ := qb.mk ((by rw [hg]; exact (qt (by repeat (first | (with_reducible first | exact HB.out | apply qc | apply qa | apply qd | refine qh ?_ GE126.out) | exact HB.out))) : w.heap.size ≤ gb128)); have n5_ := qb.mk ((by rw [hg]; exact Nat.ne_of_lt (z8 (g := gb126) (o := .cells #[.string a1_0, .int .i64 a1_1, .string a1_2] 26 (0, 0)) (by (with_reducible repeat (first | refine qi ?_ _ | refine ql ?_ | refine qg ?_ _)); exact BK126.out)) : gb126 ≠ gb128)); have n6_ := qb.mk ((by rw [hg]; exact Nat.ne_of_gt (z8 (g := gb126) (o := .cells #[.string a1_0, .int .i64 a1_1, .string a1_2] 26 (0, 0)) (by (with_reducible repeat (first | refine qi ?_ _ | refine ql ?_ | refine qg ?_ _)); exact BK126.out)) : gb128 ≠ gb126)); clear BK126; clear HB; have BK126 := n0_; have HB := n1_; have BK128 := n2_; have GW128 := n3_; have GE128 := n4_; have NB126_128 := n5_; have NB128_126 := n6_; clear n0_ n1_ n2_ n3_ n4_ n5_ n6_; clear hb hbox hg; have hnb16 := NB128_126.out; have hnc16 := NB126_128.out; have hcz17_0 : w15.cell? ⟨gb128, 0, none⟩ = some (.string (⟨#[]⟩ : ByteArray)) := (qq BK128.out 0).trans rfl; have hcz17_1 : w15.cell? ⟨gb128, 1, none⟩ = some (.int .i64 0) := (qq BK128.out 1).trans rfl; have hcz17_2 : w15.cell? ⟨gb128, 2, none⟩ = some (.string (⟨#[]⟩ : ByteArray)) := (qq BK128.out 2).trans rfl; have hfz17_0 := qo BK128.out 0; have hfz17_1 := qo BK128.out 1; have hfz17_2 := qo BK128.out 2; have hcz18_0 : w15.cell? ⟨gb126, 0, none⟩ = some (.string a1_0) := (qq BK126.out 0).trans rfl; have hcz18_1 : w15.cell? ⟨gb126, 1, none⟩ = some (.int .i64 a1_1) := (qq BK126.out 1).trans rfl; have hcz18_2 : w15.cell? ⟨gb126, 2, none⟩ = some (.string a1_2) := (qq BK126.out 2).trans rfl; have hfz18_0 := qo BK126.out 0; have hfz18_1 := qo BK126.out 1; have hfz18_2 := qo BK126.out 2) | (go_at_call 49; (with_reducible refine (xy.calls k1 a1_2 ((qm l0 x9_1).f2) false _ A8.out).mono ?_); rintro e w19 ⟨rfl, hb⟩; have n0_ := qb.mk (qz (g := gb126) (o := .cells #[.string a1_0, .int .i64 a1_1, .string a1_2] 26 (0, 0)) (by (with_reducible repeat (first | refine qi ?_ _ | refine ql ?_ | refine qg ?_ _)); refine xl ?_ NB126_128.out _; (with_reducible repeat (first | refine qi ?_ _ | refine ql ?_ | refine qg ?_ _)); refine xl ?_ NB126_128.out _; (with_reducible repeat (first | refine qi ?_ _ | refine ql ?_ | refine qg ?_ _)); refine xl ?_ NB126_128.out _; (with_reducible repeat (first | refine qi ?_ _ | refine ql ?_ | refine qg ?_ _)); exact BK126.out) hb); have n1_ := qb.mk (qz (g := gb128) (o := .cells #[.string ((qm l0 x9_1).f0), .int .i64 ((qm l0 x9_1).f1), .string ((qm l0 x9_1).f2)] 26 (0, 0)) (by (with_reducible repeat (first | refine qi ?_ _ | refine ql ?_ | refine qg ?_ _)); refine zj (cs := #[.string ((qm l0 x9_1).f0), .int .i64 ((qm l0 x9_1).f1), .string (⟨#[]⟩ : ByteArray)]) ?_ 2 _ rfl; (with_reducible repeat (first | refine qi ?_ _ | refine ql ?_ | refine qg ?_ _)); refine zj (cs := #[.string ((qm l0 x9_1).f0), .int .i64 0, .string (⟨#[]⟩ : ByteArray)]) ?_ 1 _ rfl; (with_reducible repeat (first | refine qi ?_ _ | refine ql ?_ | refine qg ?_ _)); refine zj (cs := #[.string (⟨#[]⟩ : ByteArray), .int .i64 0, .string (⟨#[]⟩ : ByteArray)]) ?_ 0 _ rfl; (with_reducible repeat (first | refine qi ?_ _ | refine ql ?_ | refine qg ?_ _)); exact BK128.out) hb); have n2_ := qb.mk (qr (by repeat (first | (with_reducible first | exact HB.out | apply qc | apply qa | apply qd | refine qh ?_ GE126.out | refine qh ?_ GE128.out) | exact HB.out)) hb); clear BK126; clear BK128; clear HB; have BK126 := n0_; have BK128 := n1_; have HB := n2_; clear n0_ n1_ n2_; (try clear hb); (try clear hb2); (try clear hk); (try clear hi)))
        go_roundg k1
        case measure => have := HK1.out; omega
        case rel => exact ⟨(wrap64 (x9_1 + 1)), (by first | rfl | (simp; done) | (simp [*]; done)), H', ⟨by have := HK1.out; omega⟩, ⟨by (with_reducible repeat (first | refine qi ?_ _ | refine ql ?_ | refine qg ?_ _)); exact BK126.out⟩, ⟨by repeat (first | (with_reducible first | exact HB.out | apply qc | apply qa | apply qd | refine qh ?_ GE126.out | refine qh ?_ GE128.out) | exact HB.out)⟩⟩
      ·rw [if_neg c7] at H
       have c7b0 : (a1_0.toList == ((qm l0 x9_1).f0).toList) = false := beq_eq_false_iff_ne.mpr c7
       have c7b1 : (a1_0.toList != ((qm l0 x9_1).f0).toList) = true := bne_iff_ne.mpr c7
       have H' := qb.mk H
       clear H
       have p127 : 0 ≤ (x9_1 : Int) := of_decide_eq_true (by first | (with_reducible assumption) | assumption)
       have q127 : x9_1 < (l0.length : Int) := of_decide_eq_true (by first | (with_reducible assumption) | assumption)
       obtain ⟨ad127, e127, hx127_0, hx127_1, hx127_2⟩ := at_T26 HR0.out x9_1 p127 q127
       cases e127
       replace hx127_0 := (HB.out.cell (World.block_lt_of_cell? w _ hx127_0)).trans hx127_0
       replace hx127_1 := (HB.out.cell (World.block_lt_of_cell? w _ hx127_1)).trans hx127_1
       replace hx127_2 := (HB.out.cell (World.block_lt_of_cell? w _ hx127_2)).trans hx127_2
       replace p127 := eq_true p127
       replace q127 := eq_true q127
       go_wp2_with (first | ((with_reducible refine zl (N := 6) rfl ?_); refine zi ?hg (N := 6) ?hd (cs := #[.string (⟨#[]⟩ : ByteArray), .int .i64 0, .string (⟨#[]⟩ : ByteArray)]) (t := 26) ?hr ?_; (case hd => rfl); (case hg => rfl); (case hr => first | (go_simp; done) | (go_simp; rfl)); intro gb128 hg w20 hbox hb; have n0_ := qb.mk (qz (g := gb126) (o := .cells #[.string a1_0, .int .i64 a1_1, .string a1_2] 26 (0, 0)) (by (with_reducible repeat (first | refine qi ?_ _ | refine ql ?_ | refine qg ?_ _)); exact BK126.out) hb); have n1_ := qb.mk (qr (by repeat (first | (with_reducible first | exact HB.out | apply qc | apply qa | apply qd | refine qh ?_ GE126.out) | exact HB.out)) hb); have n2_ := qb.mk (hbox); have n3_ := qb.mk ((by rw [hg]; exact (qt (by repeat (first | (with_reducible first | exact HB.out | apply qc | apply qa | apply qd | refine qh ?_ GE126.out) | exact HB.out))) : w.heap.size ≤ gb128)); have n4_ := qb.mk ((by rw [hg]; exact (qt (by repeat (first | (with_reducible first | exact HB.out | apply qc | apply qa | apply qd | refine qh ?_ GE126.out) | exact HB.out))) : w.heap.size ≤ gb128)); have n5_ := qb.mk ((by rw [hg]; exact Nat.ne_of_lt (z8 (g := gb126) (o := .cells #[.string a1_0, .int .i64 a1_1, .string a1_2] 26 (0, 0)) (by (with_reducible repeat (first | refine qi ?_ _ | refine ql ?_ | refine qg ?_ _)); exact BK126.out)) : gb126 ≠ gb128)); have n6_ := qb.mk ((by rw [hg]; exact Nat.ne_of_gt (z8 (g := gb126) (o := .cells #[.string a1_0, .int .i64 a1_1, .string a1_2] 26 (0, 0)) (by (with_reducible repeat (first | refine qi ?_ _ | refine ql ?_ | refine qg ?_ _)); exact BK126.out)) : gb128 ≠ gb126)); clear BK126; clear HB; have BK126 := n0_; have HB := n1_; have BK128 := n2_; have GW128 := n3_; have GE128 := n4_; have NB126_128 := n5_; have NB128_126 := n6_; clear n0_ n1_ n2_ n3_ n4_ n5_ n6_; clear hb hbox hg; have hnb21 := NB128_126.out; have hnc21 := NB126_128.out; have hcz22_0 : w20.cell? ⟨gb128, 0, none⟩ = some (.string (⟨#[]⟩ : ByteArray)) := (qq BK128.out 0).trans rfl; have hcz22_1 : w20.cell? ⟨gb128, 1, none⟩ = some (.int .i64 0) := (qq BK128.out 1).trans rfl; have hcz22_2 : w20.cell? ⟨gb128, 2, none⟩ = some (.string (⟨#[]⟩ : ByteArray)) := (qq BK128.out 2).trans rfl; have hfz22_0 := qo BK128.out 0; have hfz22_1 := qo BK128.out 1; have hfz22_2 := qo BK128.out 2; have hcz23_0 : w20.cell? ⟨gb126, 0, none⟩ = some (.string a1_0) := (qq BK126.out 0).trans rfl; have hcz23_1 : w20.cell? ⟨gb126, 1, none⟩ = some (.int .i64 a1_1) := (qq BK126.out 1).trans rfl; have hcz23_2 : w20.cell? ⟨gb126, 2, none⟩ = some (.string a1_2) := (qq BK126.out 2).trans rfl; have hfz23_0 := qo BK126.out 0; have hfz23_1 := qo BK126.out 1; have hfz23_2 := qo BK126.out 2))
       go_roundg k1
       case measure => have := HK1.out; omega
       case rel => exact ⟨(wrap64 (x9_1 + 1)), (by first | rfl | (simp; done) | (simp [*]; done)), H', ⟨by have := HK1.out; omega⟩, ⟨by (with_reducible repeat (first | refine qi ?_ _ | refine ql ?_ | refine qg ?_ _)); refine xl ?_ NB126_128.out _; (with_reducible repeat (first | refine qi ?_ _ | refine ql ?_ | refine qg ?_ _)); refine xl ?_ NB126_128.out _; (with_reducible repeat (first | refine qi ?_ _ | refine ql ?_ | refine qg ?_ _)); refine xl ?_ NB126_128.out _; (with_reducible repeat (first | refine qi ?_ _ | refine ql ?_ | refine qg ?_ _)); exact BK126.out⟩, ⟨by repeat (first | (with_reducible first | exact HB.out | apply qc | apply qa | apply qd | refine qh ?_ GE126.out | refine qh ?_ GE128.out) | exact HB.out)⟩⟩
     ·rw [if_neg c6] at H
      exact absurd H (by simp)
    ·rw [if_neg c5] at H
     exact absurd H (by simp)
   ·rw [if_neg c4] at H
    have c4b0 : decide (x9_1 < (l0.length : Int)) = false := decide_eq_false c4
    clear c4
    obtain rfl := Option.some.inj H
    go_wp2
    go_ret
    exact ⟨by first | rfl | (simp [qv, qu] <;> rfl) | (simp [*, qv, qu] <;> rfl), by repeat (first | (with_reducible first | exact HB.out | apply qc | apply qa | apply qd | refine qh ?_ GE126.out) | exact HB.out)⟩
end Go.Proofs.YtjhlinifnjoefaaDoor.C
end
section
namespace Go.Proofs.YtjhlinifnjoefaaDoor.C
open Go.RowKit Go.Proofs.YtjhlinifnjoefaaDoorW.PrintWords Go.Proofs.YtjhlinifnjoefaaDoorW.PrintLast Go.Proofs.YtjhlinifnjoefaaDoorW.PrintMore
attribute [local go_sem] xf xd xm xn z7 z6 xc xe
set_option linter.unusedVariables false
set_option linter.unusedSimpArgs false
def zu.l0 : Nat → List (S26) → List (S26) → Int → Int → Option (Bool)
 | 0, _, _, _, _ => none
 | k + 1, x0, x1, x12, x13 => if x13 < x12 then (if 0 ≤ x13 then (if x13 < (x0.length : Int) then ((zt.f k x1 ((qm x0 x13).f0) ((qm x0 x13).f1) ((qm x0 x13).f2)).bind fun t131 => (if t131 = true then (if x13 < (x1.length : Int) then ((zt.f k x0 ((qm x1 x13).f0) ((qm x1 x13).f1) ((qm x1 x13).f2)).bind fun t133 => (if t133 = true then (zu.l0 k x0 x1 x12 (wrap64 (x13 + 1))) else (some false))) else (none)) else (some false))) else (none)) else (none)) else (some true)
def zu.f (k : Nat) (l0 : List (S26)) (l1 : List (S26)) : Option (Bool) := if (l0.length : Int) = (l1.length : Int) then (zu.l0 k l0 l1 (l0.length : Int) 0) else (some false)
theorem zu.zy : ∀ k, (∀ y0 y1 y2 y3, LeO (zu.l0 k y0 y1 y2 y3) (zu.l0 (k + 1) y0 y1 y2 y3))
 | 0 => fun _ _ _ _ r h => by simp [zu.l0] at h
 | k + 1 => by
  have ih0 := zu.zy k
  ·intro y0 y1 y2 y3
   unfold zu.l0
   repeat' first
   | (with_reducible exact ih0 _ _ _ _)
   | (with_reducible exact zt.mono _ _ _ _ _)
   | (with_reducible exact LeO.refl _)
   | (with_reducible exact LeO.none _)
   | (with_reducible refine LeO.ite ?_ ?_)
   | (with_reducible refine LeO.bind ?_ (fun _ => ?_))
theorem zu.mono : ∀ a0 a1 k, LeO (zu.f k a0 a1) (zu.f (k + 1) a0 a1) := by
 intro a0 a1 k
 have ih0 := zu.zy k
 unfold zu.f
 repeat' first
   | (with_reducible exact ih0 _ _ _ _)
   | (with_reducible exact zt.mono _ _ _ _ _)
   | (with_reducible exact LeO.refl _)
   | (with_reducible exact LeO.none _)
   | (with_reducible refine LeO.ite ?_ ?_)
   | (with_reducible refine LeO.bind ?_ (fun _ => ?_))
set_option maxHeartbeats 8000000 in
set_option maxRecDepth 100000 in
theorem zu.calls (k : Nat) (A0 : Option Addr) (c0 : Nat) (l0 : List (S26)) (A1 : Option Addr) (c1 : Nat) (l1 : List (S26)) (r : Bool) (w : World) (hr0 : Kd.C k26 w A0 l0.length l0) (hc0 : l0.length ≤ c0) (hr1 : Kd.C k26 w A1 l1.length l1) (hc1 : l1.length ≤ c1) (h : zu.f k l0 l1 = some r) :
  Calls Tryd.prog 24 #[.slice A0 l0.length c0, .slice A1 l1.length c1] w fun e w' => e = .returned (.bool r) ∧ Below w.heap.size w w' := by
 have hu26 := Tryd.underlying26
 have HR0 := qb.mk hr0
 have HC0 := qb.mk hc0
 clear hr0 hc0
 have HR1 := qb.mk hr1
 have HC1 := qb.mk hc1
 clear hr1 hc1
 have HB := qb.mk (Below.refl w.heap.size w)
 have H : (if (l0.length : Int) = (l1.length : Int) then (zu.l0 k l0 l1 (l0.length : Int) 0) else (some false)) = some r := h
 clear h
 by_cases c3 : (l0.length : Int) = (l1.length : Int)
 ·rw [if_pos c3] at H
  have c3b0 : ((l0.length : Int) == (l1.length : Int)) = true := beq_iff_eq.mpr c3
  have c3b1 : ((l0.length : Int) != (l1.length : Int)) = false := bne_eq_false_iff_eq.mpr c3
  have c3b2 : (l0.length == l1.length) = true := by first | simpa using c3 | (simp at c3 ⊢; omega)
  clear c3
  have H' := qb.mk H
  clear H
  go_enter Tryd.func24, Tryd.ntmps24
  go_wp2
  go_loopg [13] k (fun kq v13 w' => ∃ (x13_1 : Int), v13 = .int .i64 x13_1 ∧ qb (zu.l0 kq l0 l1 (l0.length : Int) x13_1 = some r) ∧ qb (kq ≤ k) ∧ qb (Below w.heap.size w w'))
  case atStart => exact ⟨(0), (by first | rfl | (simp; done) | (simp [*]; done)), H', ⟨Nat.le_refl _⟩, ⟨by repeat (first | (with_reducible first | exact HB.out | apply qc | apply qa | apply qd) | exact HB.out)⟩⟩
  case round =>
   clear H'
   (try clear c1); (try clear c2); (try clear p2); (try clear c3); (try clear c3b0); (try clear c3b1); try clear c3b2
   obtain ⟨x13_1, rfl, HA, HK1, HB⟩ := hrel
   cases gk with
   | zero => exact absurd HA.out (by simp [zu.l0])
   | succ k1 =>
    have H := HA.out
    clear HA
    simp only [zu.l0] at H
    by_cases c4 : x13_1 < (l0.length : Int)
    ·rw [if_pos c4] at H
     have c4b0 : decide (x13_1 < (l0.length : Int)) = true := decide_eq_true c4
     clear c4
     by_cases c5 : 0 ≤ x13_1
     ·rw [if_pos c5] at H
      have c5b0 : decide (0 ≤ x13_1) = true := decide_eq_true c5
      clear c5
      by_cases c6 : x13_1 < (l0.length : Int)
      ·rw [if_pos c6] at H
       have c6b0 : decide (x13_1 < (l0.length : Int)) = true := decide_eq_true c6
       clear c6
       replace H := Option.bind_eq_some_iff.mp H
       obtain ⟨t131, A70, H⟩ := H
       replace H : (if t131 = true then (if x13_1 < (l1.length : Int) then ((zt.f k1 l0 ((qm l1 x13_1).f0) ((qm l1 x13_1).f1) ((qm l1 x13_1).f2)).bind fun t133 => (if t133 = true then (zu.l0 k1 l0 l1 (l0.length : Int) (wrap64 (x13_1 + 1))) else (some false))) else (none)) else (some false)) = some r := H
       have A7 := qb.mk A70
       clear A70
       by_cases c8 : t131 = true
       ·subst c8
        have H1 : (if x13_1 < (l1.length : Int) then ((zt.f k1 l0 ((qm l1 x13_1).f0) ((qm l1 x13_1).f1) ((qm l1 x13_1).f2)).bind fun t133 => (if t133 = true then (zu.l0 k1 l0 l1 (l0.length : Int) (wrap64 (x13_1 + 1))) else (some false))) else (none)) = some r := by rw [if_pos rfl] at H; exact H
        clear H
        have H := H1
        clear H1
        by_cases c9 : x13_1 < (l1.length : Int)
        ·rw [if_pos c9] at H
         have c9b0 : decide (x13_1 < (l1.length : Int)) = true := decide_eq_true c9
         clear c9
         replace H := Option.bind_eq_some_iff.mp H
         obtain ⟨t133, A100, H⟩ := H
         replace H : (if t133 = true then (zu.l0 k1 l0 l1 (l0.length : Int) (wrap64 (x13_1 + 1))) else (some false)) = some r := H
         have A10 := qb.mk A100
         clear A100
         by_cases c11 : t133 = true
         ·subst c11
          have H1 : (zu.l0 k1 l0 l1 (l0.length : Int) (wrap64 (x13_1 + 1))) = some r := by rw [if_pos rfl] at H; exact H
          clear H
          have H := H1
          clear H1
          have H' := qb.mk H
          clear H
          have p130 : 0 ≤ (x13_1 : Int) := of_decide_eq_true (by first | (with_reducible assumption) | assumption)
          have q130 : x13_1 < (l0.length : Int) := of_decide_eq_true (by first | (with_reducible assumption) | assumption)
          obtain ⟨ad130, e130, hx130_0, hx130_1, hx130_2⟩ := at_T26 HR0.out x13_1 p130 q130
          cases e130
          replace hx130_0 := (HB.out.cell (World.block_lt_of_cell? w _ hx130_0)).trans hx130_0
          replace hx130_1 := (HB.out.cell (World.block_lt_of_cell? w _ hx130_1)).trans hx130_1
          replace hx130_2 := (HB.out.cell (World.block_lt_of_cell? w _ hx130_2)).trans hx130_2
          replace p130 := eq_true p130
          replace q130 := eq_true q130
          go_wp2_with (first | ((with_reducible refine zg (f := 32) rfl ?_); refine xh (some 21) rfl rfl Tryd.func32 (by kernel_rfl) rfl #[.slice A1 l1.length c1, .agg #[.string ((qm l0 x13_1).f0), .int .i64 ((qm l0 x13_1).f1), .string ((qm l0 x13_1).f2)]] rfl (by (try simp only [List.map_toArray, List.map_cons, List.map_nil]); first | done | rfl | (simp only [List.length_drop, List.length_take]; rfl)) ?_; (with_reducible refine (zt.calls k1 _ _ l1 ((qm l0 x13_1).f0) ((qm l0 x13_1).f1) ((qm l0 x13_1).f2) true _ ?side1 ?side2 A7.out).mono ?_); (case side1 => repeat (first | exact (Kd.ka HR1.out HB.out) | (with_reducible refine Kd.ki ?_ _) | (with_reducible refine Kd.kj ?_ _) | (with_reducible refine Kd.C_drew ?_))); (case side2 => exact HC1.out); rintro e w12 ⟨rfl, hb⟩; refine ⟨_, rfl, ?_⟩; have n0_ := qb.mk (qr (by repeat (first | (with_reducible first | exact HB.out | apply qc | apply qa | apply qd) | exact HB.out)) hb); clear HB; have HB := n0_; clear n0_; (try clear hb); (try clear hb2); (try clear hk); (try clear hi); have p132 : 0 ≤ (x13_1 : Int) := of_decide_eq_true (by first | (with_reducible assumption) | assumption); have q132 : x13_1 < (l1.length : Int) := of_decide_eq_true (by first | (with_reducible assumption) | assumption); obtain ⟨ad132, e132, hx132_0, hx132_1, hx132_2⟩ := at_T26 HR1.out x13_1 p132 q132; cases e132; replace hx132_0 := (HB.out.cell (World.block_lt_of_cell? w _ hx132_0)).trans hx132_0; replace hx132_1 := (HB.out.cell (World.block_lt_of_cell? w _ hx132_1)).trans hx132_1; replace hx132_2 := (HB.out.cell (World.block_lt_of_cell? w _ hx132_2)).trans hx132_2; replace p132 := eq_true p132; replace q132 := eq_true q132) | (go_at_call 32; (with_reducible refine (zt.calls k1 _ _ l0 ((qm l1 x13_1).f0) ((qm l1 x13_1).f1) ((qm l1 x13_1).f2) true _ ?side1 ?side2 A10.out).mono ?_); (case side1 => repeat (first | exact (Kd.ka HR0.out HB.out) | (with_reducible refine Kd.ki ?_ _) | (with_reducible refine Kd.kj ?_ _) | (with_reducible refine Kd.C_drew ?_))); (case side2 => exact HC0.out); rintro e w13 ⟨rfl, hb⟩; have n0_ := qb.mk (qr (by repeat (first | (with_reducible first | exact HB.out | apply qc | apply qa | apply qd) | exact HB.out)) hb); clear HB; have HB := n0_; clear n0_; (try clear hb); (try clear hb2); (try clear hk); (try clear hi)))
          go_roundg k1
          case measure => have := HK1.out; omega
          case rel => exact ⟨(wrap64 (x13_1 + 1)), (by first | rfl | (simp; done) | (simp [*]; done)), H', ⟨by have := HK1.out; omega⟩, ⟨by repeat (first | (with_reducible first | exact HB.out | apply qc | apply qa | apply qd) | exact HB.out)⟩⟩
         ·replace c11 := Bool.eq_false_iff.mpr c11
          subst c11
          have H1 : (some false) = some r := by rw [if_neg (show ¬ (false = true) by decide)] at H; exact H
          clear H
          have H := H1
          clear H1
          obtain rfl := Option.some.inj H
          have p130 : 0 ≤ (x13_1 : Int) := of_decide_eq_true (by first | (with_reducible assumption) | assumption)
          have q130 : x13_1 < (l0.length : Int) := of_decide_eq_true (by first | (with_reducible assumption) | assumption)
          obtain ⟨ad130, e130, hx130_0, hx130_1, hx130_2⟩ := at_T26 HR0.out x13_1 p130 q130
          cases e130
          replace hx130_0 := (HB.out.cell (World.block_lt_of_cell? w _ hx130_0)).trans hx130_0
          replace hx130_1 := (HB.out.cell (World.block_lt_of_cell? w _ hx130_1)).trans hx130_1
          replace hx130_2 := (HB.out.cell (World.block_lt_of_cell? w _ hx130_2)).trans hx130_2
          replace p130 := eq_true p130
          replace q130 := eq_true q130
          go_wp2_with (first | ((with_reducible refine zg (f := 32) rfl ?_); refine xh (some 21) rfl rfl Tryd.func32 (by kernel_rfl) rfl #[.slice A1 l1.length c1, .agg #[.string ((qm l0 x13_1).f0), .int .i64 ((qm l0 x13_1).f1), .string ((qm l0 x13_1).f2)]] rfl (by (try simp only [List.map_toArray, List.map_cons, List.map_nil]); first | done | rfl | (simp only [List.length_drop, List.length_take]; rfl)) ?_; (with_reducible refine (zt.calls k1 _ _ l1 ((qm l0 x13_1).f0) ((qm l0 x13_1).f1) ((qm l0 x13_1).f2) true _ ?side1 ?side2 A7.out).mono ?_); (case side1 => repeat (first | exact (Kd.ka HR1.out HB.out) | (with_reducible refine Kd.ki ?_ _) | (with_reducible refine Kd.kj ?_ _) | (with_reducible refine Kd.C_drew ?_))); (case side2 => exact HC1.out); rintro e w14 ⟨rfl, hb⟩; refine ⟨_, rfl, ?_⟩; have n0_ := qb.mk (qr (by repeat (first | (with_reducible first | exact HB.out | apply qc | apply qa | apply qd) | exact HB.out)) hb); clear HB; have HB := n0_; clear n0_; (try clear hb); (try clear hb2); (try clear hk); (try clear hi); have p132 : 0 ≤ (x13_1 : Int) := of_decide_eq_true (by first | (with_reducible assumption) | assumption); have q132 : x13_1 < (l1.length : Int) := of_decide_eq_true (by first | (with_reducible assumption) | assumption); obtain ⟨ad132, e132, hx132_0, hx132_1, hx132_2⟩ := at_T26 HR1.out x13_1 p132 q132; cases e132; replace hx132_0 := (HB.out.cell (World.block_lt_of_cell? w _ hx132_0)).trans hx132_0; replace hx132_1 := (HB.out.cell (World.block_lt_of_cell? w _ hx132_1)).trans hx132_1; replace hx132_2 := (HB.out.cell (World.block_lt_of_cell? w _ hx132_2)).trans hx132_2; replace p132 := eq_true p132; replace q132 := eq_true q132) | (go_at_call 32; (with_reducible refine (zt.calls k1 _ _ l0 ((qm l1 x13_1).f0) ((qm l1 x13_1).f1) ((qm l1 x13_1).f2) false _ ?side1 ?side2 A10.out).mono ?_); (case side1 => repeat (first | exact (Kd.ka HR0.out HB.out) | (with_reducible refine Kd.ki ?_ _) | (with_reducible refine Kd.kj ?_ _) | (with_reducible refine Kd.C_drew ?_))); (case side2 => exact HC0.out); rintro e w15 ⟨rfl, hb⟩; have n0_ := qb.mk (qr (by repeat (first | (with_reducible first | exact HB.out | apply qc | apply qa | apply qd) | exact HB.out)) hb); clear HB; have HB := n0_; clear n0_; (try clear hb); (try clear hb2); (try clear hk); (try clear hi)))
          go_ret
          exact ⟨by first | rfl | (simp [qv, qu] <;> rfl) | (simp [*, qv, qu] <;> rfl), by repeat (first | (with_reducible first | exact HB.out | apply qc | apply qa | apply qd) | exact HB.out)⟩
        ·rw [if_neg c9] at H
         exact absurd H (by simp)
       ·replace c8 := Bool.eq_false_iff.mpr c8
        subst c8
        have H1 : (some false) = some r := by rw [if_neg (show ¬ (false = true) by decide)] at H; exact H
        clear H
        have H := H1
        clear H1
        obtain rfl := Option.some.inj H
        have p130 : 0 ≤ (x13_1 : Int) := of_decide_eq_true (by first | (with_reducible assumption) | assumption)
        have q130 : x13_1 < (l0.length : Int) := of_decide_eq_true (by first | (with_reducible assumption) | assumption)
        obtain ⟨ad130, e130, hx130_0, hx130_1, hx130_2⟩ := at_T26 HR0.out x13_1 p130 q130
        cases e130
        replace hx130_0 := (HB.out.cell (World.block_lt_of_cell? w _ hx130_0)).trans hx130_0
        replace hx130_1 := (HB.out.cell (World.block_lt_of_cell? w _ hx130_1)).trans hx130_1
        replace hx130_2 := (HB.out.cell (World.block_lt_of_cell? w _ hx130_2)).trans hx130_2
        replace p130 := eq_true p130
        replace q130 := eq_true q130
        go_wp2_with (first | ((with_reducible refine zg (f := 32) rfl ?_); refine xh (some 21) rfl rfl Tryd.func32 (by kernel_rfl) rfl #[.slice A1 l1.length c1, .agg #[.string ((qm l0 x13_1).f0), .int .i64 ((qm l0 x13_1).f1), .string ((qm l0 x13_1).f2)]] rfl (by (try simp only [List.map_toArray, List.map_cons, List.map_nil]); first | done | rfl | (simp only [List.length_drop, List.length_take]; rfl)) ?_; (with_reducible refine (zt.calls k1 _ _ l1 ((qm l0 x13_1).f0) ((qm l0 x13_1).f1) ((qm l0 x13_1).f2) false _ ?side1 ?side2 A7.out).mono ?_); (case side1 => repeat (first | exact (Kd.ka HR1.out HB.out) | (with_reducible refine Kd.ki ?_ _) | (with_reducible refine Kd.kj ?_ _) | (with_reducible refine Kd.C_drew ?_))); (case side2 => exact HC1.out); rintro e w16 ⟨rfl, hb⟩; refine ⟨_, rfl, ?_⟩; have n0_ := qb.mk (qr (by repeat (first | (with_reducible first | exact HB.out | apply qc | apply qa | apply qd) | exact HB.out)) hb); clear HB; have HB := n0_; clear n0_; (try clear hb); (try clear hb2); (try clear hk); (try clear hi)))
        go_ret
        exact ⟨by first | rfl | (simp [qv, qu] <;> rfl) | (simp [*, qv, qu] <;> rfl), by repeat (first | (with_reducible first | exact HB.out | apply qc | apply qa | apply qd) | exact HB.out)⟩
      ·rw [if_neg c6] at H
       exact absurd H (by simp)
     ·rw [if_neg c5] at H
      exact absurd H (by simp)
    ·rw [if_neg c4] at H
     have c4b0 : decide (x13_1 < (l0.length : Int)) = false := decide_eq_false c4
     clear c4
     obtain rfl := Option.some.inj H
     go_wp2
     go_ret
     exact ⟨by first | rfl | (simp [qv, qu] <;> rfl) | (simp [*, qv, qu] <;> rfl), by repeat (first | (with_reducible first | exact HB.out | apply qc | apply qa | apply qd) | exact HB.out)⟩
 ·rw [if_neg c3] at H
  have c3b0 : ((l0.length : Int) == (l1.length : Int)) = false := beq_eq_false_iff_ne.mpr c3
  have c3b1 : ((l0.length : Int) != (l1.length : Int)) = true := bne_iff_ne.mpr c3
  have c3b2 : (l0.length == l1.length) = false := by first | simpa using c3 | (simp at c3 ⊢; omega)
  obtain rfl := Option.some.inj H
  go_enter Tryd.func24, Tryd.ntmps24
  go_wp2
  go_ret
  exact ⟨by first | rfl | (simp [qv, qu] <;> rfl) | (simp [*, qv, qu] <;> rfl), by repeat (first | (with_reducible first | exact HB.out | apply qc | apply qa | apply qd) | exact HB.out)⟩
end Go.Proofs.YtjhlinifnjoefaaDoor.C
end
section
namespace Go.Proofs.YtjhlinifnjoefaaDoor.C
open Go.RowKit Go.Proofs.YtjhlinifnjoefaaDoorW.PrintWords Go.Proofs.YtjhlinifnjoefaaDoorW.PrintLast Go.Proofs.YtjhlinifnjoefaaDoorW.PrintMore
attribute [local go_sem] xf xd xm xn z7 z6 xc xe
set_option linter.unusedVariables false
set_option linter.unusedSimpArgs false
def ze.l0 : Nat → Int → Int → List (List (S26)) → List (List (S26)) → Option (Bool)
 | 0, _, _, _, _ => none
 | k + 1, x15, x16, x135000, x136000 => if x16 < x15 then (if 0 ≤ x16 then (if x16 < (x135000.length : Int) then (if x16 < (x136000.length : Int) then ((zu.f k (xq x135000 x16) (xq x136000 x16)).bind fun t138 => (if t138 = true then (ze.l0 k x15 (wrap64 (x16 + 1)) x135000 x136000) else (some false))) else (none)) else (none)) else (none)) else (some true)
def ze.f (k : Nat) (l0_0 : List (List (S26))) (l1_0 : List (List (S26))) : Option (Bool) := if (l1_0.length : Int) > (l0_0.length : Int) then (some false) else (ze.l0 k (l1_0.length : Int) 0 l0_0 l1_0)
theorem ze.zy : ∀ k, (∀ y0 y1 y2 y3, LeO (ze.l0 k y0 y1 y2 y3) (ze.l0 (k + 1) y0 y1 y2 y3))
 | 0 => fun _ _ _ _ r h => by simp [ze.l0] at h
 | k + 1 => by
  have ih0 := ze.zy k
  ·intro y0 y1 y2 y3
   unfold ze.l0
   repeat' first
   | (with_reducible exact ih0 _ _ _ _)
   | (with_reducible exact zu.mono _ _ _)
   | (with_reducible exact LeO.refl _)
   | (with_reducible exact LeO.none _)
   | (with_reducible refine LeO.ite ?_ ?_)
   | (with_reducible refine LeO.bind ?_ (fun _ => ?_))
theorem ze.mono : ∀ a0 a1 k, LeO (ze.f k a0 a1) (ze.f (k + 1) a0 a1) := by
 intro a0 a1 k
 have ih0 := ze.zy k
 unfold ze.f
 repeat' first
   | (with_reducible exact ih0 _ _ _ _)
   | (with_reducible exact zu.mono _ _ _)
   | (with_reducible exact LeO.refl _)
   | (with_reducible exact LeO.none _)
   | (with_reducible refine LeO.ite ?_ ?_)
   | (with_reducible refine LeO.bind ?_ (fun _ => ?_))
def ze.T6 : Bool × List (List Nat × List Nat) := (true, [([], []), ([0], [0]), ([], []), ([1, 2], [1, 2]), ([3], [3]), ([], []), ([5], [5]), ([], []), ([6, 7], [6, 7]), ([8], [8]), ([4, 9], [4, 9]), ([10], [10])])
def ze.B6 : List Nat := [0, 1, 0, 7, 15, 0, 32, 0, 224, 480, 1023, 2047]
theorem ze.tab6 : rtab .any (opsOf Tryd.f17 6) = ze.T6 := by kernel_rfl
theorem ze.bits6 : waitsOk ze.T6.2 ze.B6 = true := by kernel_rfl
set_option maxHeartbeats 8000000 in
set_option maxRecDepth 100000 in
theorem ze.calls (k : Nat) (A0_0 : Option Addr) (c0_0 : Nat) (l0_0 : List (List (S26))) (A1_0 : Option Addr) (c1_0 : Nat) (l1_0 : List (List (S26))) (r : Bool) (w : World) (hr0_0 : Kd.C (Kd.slice 26 k26) w A0_0 l0_0.length l0_0) (hc0_0 : l0_0.length ≤ c0_0) (hr1_0 : Kd.C (Kd.slice 26 k26) w A1_0 l1_0.length l1_0) (hc1_0 : l1_0.length ≤ c1_0) (h : ze.f k l0_0 l1_0 = some r) :
  Calls Tryd.prog 17 #[.agg #[.slice A0_0 l0_0.length c0_0], .agg #[.slice A1_0 l1_0.length c1_0]] w fun e w' => e = .returned (.bool r) ∧ Below w.heap.size w w' := by
 have hu24 := Tryd.underlying24
 have HR0_0 := qb.mk hr0_0
 have HC0_0 := qb.mk hc0_0
 clear hr0_0 hc0_0
 have HR1_0 := qb.mk hr1_0
 have HC1_0 := qb.mk hc1_0
 clear hr1_0 hc1_0
 have HB := qb.mk (Below.refl w.heap.size w)
 have H : (if (l1_0.length : Int) > (l0_0.length : Int) then (some false) else (ze.l0 k (l1_0.length : Int) 0 l0_0 l1_0)) = some r := h
 clear h
 by_cases c3 : (l1_0.length : Int) > (l0_0.length : Int)
 ·rw [if_pos c3] at H
  have c3b0 : decide ((l0_0.length : Int) < (l1_0.length : Int)) = true := decide_eq_true c3
  have c3b1 : decide (l0_0.length < l1_0.length) = true := decide_eq_true (Int.ofNat_lt.mp c3)
  clear c3
  obtain rfl := Option.some.inj H
  go_enter Tryd.func17, Tryd.ntmps17
  go_wp2_with (first | ((with_reducible refine zl (N := 2) rfl ?_); refine zi ?hg (N := 2) ?hd (cs := #[.slice A0_0 l0_0.length c0_0]) (t := 24) ?hr ?_; (case hd => rfl); (case hg => rfl); (case hr => first | (go_simp; done) | (go_simp; rfl)); intro gb134 hg w4 hbox hb; have n0_ := qb.mk (qr (by repeat (first | (with_reducible first | exact HB.out | apply qc | apply qa | apply qd) | exact HB.out)) hb); have n1_ := qb.mk (hbox); have n2_ := qb.mk ((by rw [hg]; exact (qt (by repeat (first | (with_reducible first | exact HB.out | apply qc | apply qa | apply qd) | exact HB.out))) : w.heap.size ≤ gb134)); have n3_ := qb.mk ((by rw [hg]; exact (qt (by repeat (first | (with_reducible first | exact HB.out | apply qc | apply qa | apply qd) | exact HB.out))) : w.heap.size ≤ gb134)); clear HB; have HB := n0_; have BK134 := n1_; have GW134 := n2_; have GE134 := n3_; clear n0_ n1_ n2_ n3_; clear hb hbox hg) | ((with_reducible refine zl (N := 3) rfl ?_); refine zi ?hg (N := 3) ?hd (cs := #[.slice A1_0 l1_0.length c1_0]) (t := 24) ?hr ?_; (case hd => rfl); (case hg => rfl); (case hr => first | (go_simp; done) | (go_simp; rfl)); intro gb135 hg w5 hbox hb; have n0_ := qb.mk (qz (g := gb134) (o := .cells #[.slice A0_0 l0_0.length c0_0] 24 (0, 0)) (by (with_reducible repeat (first | refine qi ?_ _ | refine ql ?_ | refine qg ?_ _)); exact BK134.out) hb); have n1_ := qb.mk (qr (by repeat (first | (with_reducible first | exact HB.out | apply qc | apply qa | apply qd | refine qh ?_ GE134.out) | exact HB.out)) hb); have n2_ := qb.mk (hbox); have n3_ := qb.mk ((by rw [hg]; exact (qt (by repeat (first | (with_reducible first | exact HB.out | apply qc | apply qa | apply qd | refine qh ?_ GE134.out) | exact HB.out))) : w.heap.size ≤ gb135)); have n4_ := qb.mk ((by rw [hg]; exact (qt (by repeat (first | (with_reducible first | exact HB.out | apply qc | apply qa | apply qd | refine qh ?_ GE134.out) | exact HB.out))) : w.heap.size ≤ gb135)); have n5_ := qb.mk ((by rw [hg]; exact Nat.ne_of_lt (z8 (g := gb134) (o := .cells #[.slice A0_0 l0_0.length c0_0] 24 (0, 0)) (by (with_reducible repeat (first | refine qi ?_ _ | refine ql ?_ | refine qg ?_ _)); exact BK134.out)) : gb134 ≠ gb135)); have n6_ := qb.mk ((by rw [hg]; exact Nat.ne_of_gt (z8 (g := gb134) (o := .cells #[.slice A0_0 l0_0.length c0_0] 24 (0, 0)) (by (with_reducible repeat (first | refine qi ?_ _ | refine ql ?_ | refine qg ?_ _)); exact BK134.out)) : gb135 ≠ gb134)); clear BK134; clear HB; have BK134 := n0_; have HB := n1_; have BK135 := n2_; have GW135 := n3_; have GE135 := n4_; have NB134_135 := n5_; have NB135_134 := n6_; clear n0_ n1_ n2_ n3_ n4_ n5_ n6_; clear hb hbox hg; have hnb6 := NB135_134.out; have hnc6 := NB134_135.out; have hcz7_0 : w5.cell? ⟨gb135, 0, none⟩ = some (.slice A1_0 l1_0.length c1_0) := (qq BK135.out 0).trans rfl; have hfz7_0 := qo BK135.out 0; have hcz8_0 : w5.cell? ⟨gb134, 0, none⟩ = some (.slice A0_0 l0_0.length c0_0) := (qq BK134.out 0).trans rfl; have hfz8_0 := qo BK134.out 0))
  go_ret
  exact ⟨by first | rfl | (simp [qv, qu] <;> rfl) | (simp [*, qv, qu] <;> rfl), by repeat (first | (with_reducible first | exact HB.out | apply qc | apply qa | apply qd | refine qh ?_ GE134.out | refine qh ?_ GE135.out) | exact HB.out)⟩
 ·rw [if_neg c3] at H
  have c3b0 : decide ((l0_0.length : Int) < (l1_0.length : Int)) = false := decide_eq_false c3
  have c3b1 : decide (l0_0.length < l1_0.length) = false := decide_eq_false (fun h => c3 (Int.ofNat_lt.mpr h))
  clear c3
  have H' := qb.mk H
  clear H
  go_enter Tryd.func17, Tryd.ntmps17
  go_wp2_with (first | ((with_reducible refine zl (N := 2) rfl ?_); refine zi ?hg (N := 2) ?hd (cs := #[.slice A0_0 l0_0.length c0_0]) (t := 24) ?hr ?_; (case hd => rfl); (case hg => rfl); (case hr => first | (go_simp; done) | (go_simp; rfl)); intro gb134 hg w9 hbox hb; have n0_ := qb.mk (qr (by repeat (first | (with_reducible first | exact HB.out | apply qc | apply qa | apply qd) | exact HB.out)) hb); have n1_ := qb.mk (hbox); have n2_ := qb.mk ((by rw [hg]; exact (qt (by repeat (first | (with_reducible first | exact HB.out | apply qc | apply qa | apply qd) | exact HB.out))) : w.heap.size ≤ gb134)); have n3_ := qb.mk ((by rw [hg]; exact (qt (by repeat (first | (with_reducible first | exact HB.out | apply qc | apply qa | apply qd) | exact HB.out))) : w.heap.size ≤ gb134)); clear HB; have HB := n0_; have BK134 := n1_; have GW134 := n2_; have GE134 := n3_; clear n0_ n1_ n2_ n3_; clear hb hbox hg) | ((with_reducible refine zl (N := 3) rfl ?_); refine zi ?hg (N := 3) ?hd (cs := #[.slice A1_0 l1_0.length c1_0]) (t := 24) ?hr ?_; (case hd => rfl); (case hg => rfl); (case hr => first | (go_simp; done) | (go_simp; rfl)); intro gb135 hg w10 hbox hb; have n0_ := qb.mk (qz (g := gb134) (o := .cells #[.slice A0_0 l0_0.length c0_0] 24 (0, 0)) (by (with_reducible repeat (first | refine qi ?_ _ | refine ql ?_ | refine qg ?_ _)); exact BK134.out) hb); have n1_ := qb.mk (qr (by repeat (first | (with_reducible first | exact HB.out | apply qc | apply qa | apply qd | refine qh ?_ GE134.out) | exact HB.out)) hb); have n2_ := qb.mk (hbox); have n3_ := qb.mk ((by rw [hg]; exact (qt (by repeat (first | (with_reducible first | exact HB.out | apply qc | apply qa | apply qd | refine qh ?_ GE134.out) | exact HB.out))) : w.heap.size ≤ gb135)); have n4_ := qb.mk ((by rw [hg]; exact (qt (by repeat (first | (with_reducible first | exact HB.out | apply qc | apply qa | apply qd | refine qh ?_ GE134.out) | exact HB.out))) : w.heap.size ≤ gb135)); have n5_ := qb.mk ((by rw [hg]; exact Nat.ne_of_lt (z8 (g := gb134) (o := .cells #[.slice A0_0 l0_0.length c0_0] 24 (0, 0)) (by (with_reducible repeat (first | refine qi ?_ _ | refine ql ?_ | refine qg ?_ _)); exact BK134.out)) : gb134 ≠ gb135)); have n6_ := qb.mk ((by rw [hg]; exact Nat.ne_of_gt (z8 (g := gb134) (o := .cells #[.slice A0_0 l0_0.length c0_0] 24 (0, 0)) (by (with_reducible repeat (first | refine qi ?_ _ | refine ql ?_ | refine qg ?_ _)); exact BK134.out)) : gb135 ≠ gb134)); clear BK134; clear HB; have BK134 := n0_; have HB := n1_; have BK135 := n2_; have GW135 := n3_; have GE135 := n4_; have NB134_135 := n5_; have NB135_134 := n6_; clear n0_ n1_ n2_ n3_ n4_ n5_ n6_; clear hb hbox hg; have hnb11 := NB135_134.out; have hnc11 := NB134_135.out; have hcz12_0 : w10.cell? ⟨gb135, 0, none⟩ = some (.slice A1_0 l1_0.length c1_0) := (qq BK135.out 0).trans rfl; have hfz12_0 := qo BK135.out 0; have hcz13_0 : w10.cell? ⟨gb134, 0, none⟩ = some (.slice A0_0 l0_0.length c0_0) := (qq BK134.out 0).trans rfl; have hfz13_0 := qo BK134.out 0))
  go_loopg [16] k (fun kq v16 w' => ∃ (x16_1 : Int), v16 = .int .i64 x16_1 ∧ qb (ze.l0 kq (l1_0.length : Int) x16_1 l0_0 l1_0 = some r) ∧ qb (kq ≤ k) ∧ qb (w'.heap[gb134]? = some (.cells #[(.slice A0_0 l0_0.length c0_0)] 24 (0, 0))) ∧ qb (w'.heap[gb135]? = some (.cells #[(.slice A1_0 l1_0.length c1_0)] 24 (0, 0))) ∧ qb (Below w.heap.size w w'))
  case atStart => exact ⟨(0), (by first | rfl | (simp; done) | (simp [*]; done)), H', ⟨Nat.le_refl _⟩, ⟨by (with_reducible repeat (first | refine qi ?_ _ | refine ql ?_ | refine qg ?_ _)); exact BK134.out⟩, ⟨by (with_reducible repeat (first | refine qi ?_ _ | refine ql ?_ | refine qg ?_ _)); exact BK135.out⟩, ⟨by repeat (first | (with_reducible first | exact HB.out | apply qc | apply qa | apply qd | refine qh ?_ GE134.out | refine qh ?_ GE135.out) | exact HB.out)⟩⟩
  case round =>
   clear H'
   (try clear c1); (try clear p2); (try clear c3); (try clear c3b0); (try clear c3b1); (try clear c6); (try clear c11); (try clear hcz12_0); (try clear hcz13_0); (try clear hcz7_0); try clear hcz8_0
   (try clear hfz12_0); (try clear hfz13_0); (try clear hfz7_0); try clear hfz8_0
   obtain ⟨x16_1, rfl, HA, HK1, BK134, BK135, HB⟩ := hrel
   cases gk with
   | zero => exact absurd HA.out (by simp [ze.l0])
   | succ k1 =>
    have H := HA.out
    clear HA
    simp only [ze.l0] at H
    by_cases c14 : x16_1 < (l1_0.length : Int)
    ·rw [if_pos c14] at H
     have c14b0 : decide (x16_1 < (l1_0.length : Int)) = true := decide_eq_true c14
     clear c14
     by_cases c15 : 0 ≤ x16_1
     ·rw [if_pos c15] at H
      have c15b0 : decide (0 ≤ x16_1) = true := decide_eq_true c15
      clear c15
      by_cases c16 : x16_1 < (l0_0.length : Int)
      ·rw [if_pos c16] at H
       have c16b0 : decide (x16_1 < (l0_0.length : Int)) = true := decide_eq_true c16
       clear c16
       by_cases c17 : x16_1 < (l1_0.length : Int)
       ·rw [if_pos c17] at H
        have c17b0 : decide (x16_1 < (l1_0.length : Int)) = true := decide_eq_true c17
        clear c17
        replace H := Option.bind_eq_some_iff.mp H
        obtain ⟨t138, A180, H⟩ := H
        replace H : (if t138 = true then (ze.l0 k1 (l1_0.length : Int) (wrap64 (x16_1 + 1)) l0_0 l1_0) else (some false)) = some r := H
        have A18 := qb.mk A180
        clear A180
        by_cases c19 : t138 = true
        ·subst c19
         have H1 : (ze.l0 k1 (l1_0.length : Int) (wrap64 (x16_1 + 1)) l0_0 l1_0) = some r := by rw [if_pos rfl] at H; exact H
         clear H
         have H := H1
         clear H1
         have H' := qb.mk H
         clear H
         try go_wp2
         have n0_ := qb.mk (ql BK134.out)
         have n1_ := qb.mk (ql BK135.out)
         have n2_ := qb.mk (qd HB.out)
         clear BK134
         clear BK135
         clear HB
         have BK134 := n0_
         have BK135 := n1_
         have HB := n2_
         clear n0_ n1_ n2_
         have p136 : 0 ≤ (x16_1 : Int) := of_decide_eq_true (by first | (with_reducible assumption) | assumption)
         have q136 : x16_1 < (l0_0.length : Int) := of_decide_eq_true (by first | (with_reducible assumption) | assumption)
         obtain ⟨ad136, A136_0, c136_0, e136, hx136_0, hl136_0, hi136_0⟩ := at_L4 HR0_0.out x16_1 p136 q136
         have hw136_0 := hx136_0
         cases e136
         replace hx136_0 := (HB.out.cell (World.block_lt_of_cell? w _ hx136_0)).trans hx136_0
         have HR136_0 := qb.mk hi136_0
         have HC136_0 := qb.mk hl136_0
         clear hi136_0 hl136_0
         replace p136 := eq_true p136
         replace q136 := eq_true q136
         have p137 : 0 ≤ (x16_1 : Int) := of_decide_eq_true (by first | (with_reducible assumption) | assumption)
         have q137 : x16_1 < (l1_0.length : Int) := of_decide_eq_true (by first | (with_reducible assumption) | assumption)
         obtain ⟨ad137, A137_0, c137_0, e137, hx137_0, hl137_0, hi137_0⟩ := at_L4 HR1_0.out x16_1 p137 q137
         have hw137_0 := hx137_0
         cases e137
         replace hx137_0 := (HB.out.cell (World.block_lt_of_cell? w _ hx137_0)).trans hx137_0
         have HR137_0 := qb.mk hi137_0
         have HC137_0 := qb.mk hl137_0
         clear hi137_0 hl137_0
         replace p137 := eq_true p137
         replace q137 := eq_true q137
         refine start_ (n := 12) (S := fun w' => w'.cell? ⟨gb134, 0, none⟩ = some (.slice (some ad136) l0_0.length c0_0) ∧ w'.cell? ⟨gb135, 0, none⟩ = some (.slice (some ad137) l1_0.length c1_0) ∧ w'.cell? (ad136.add (x16_1).toNat) = some (.slice A136_0 (xq l0_0 x16_1).length c136_0) ∧ w'.cell? (ad137.add (x16_1).toNat) = some (.slice A137_0 (xq l1_0 x16_1).length c137_0)) (ds := []) #[false, false, false, false, false, false, false, false, false, false, false, false] (by kernel_rfl) rfl rfl ⟨(qq BK134.out 0).trans rfl, (qq BK135.out 0).trans rfl, ((HB.out.cell (World.block_lt_of_cell? w _ hw136_0)).trans hw136_0), ((HB.out.cell (World.block_lt_of_cell? w _ hw137_0)).trans hw137_0)⟩ (fun hHeld => ?_); refine with_tabW ze.tab6 ze.bits6 (fun HT_ HW_ => ?_)
         generalize wr.drew = w20 at BK134 BK135 HB HR136_0 HR137_0 hx136_0 hx137_0 hHeld ⊢
         refine kg (i := 0) (N := some 19) (v := ?_) (a' := ?_) #[true, false, false, false, false, false, false, false, false, false, false, false] rfl rfl (xo HT_.out (by kernel_rfl)) (fun _ _ _ h => h) (Or.inl ⟨by rfl, ?_⟩) ?_ ?_
         rotate_left
         ·intro w'
          go_simp
          with_reducible rfl
         rotate_left
         ·simp only [Act.put, List.setIfInBounds_toArray, List.set_cons_zero, List.set_cons_succ, zk, zm]
          rfl
         refine kg (i := 2) (N := some 21) (v := ?_) (a' := ?_) #[true, false, true, false, false, false, false, false, false, false, false, false] rfl rfl (xo HT_.out (by kernel_rfl)) (fun _ _ _ h => h) (Or.inl ⟨by rfl, ?_⟩) ?_ ?_
         rotate_left
         ·intro w'
          go_simp
          with_reducible rfl
         rotate_left
         ·simp only [Act.put, List.setIfInBounds_toArray, List.set_cons_zero, List.set_cons_succ, zk, zm]
          rfl
         refine kg (i := 5) (N := some 24) (v := ?_) (a' := ?_) #[true, false, true, false, false, true, false, false, false, false, false, false] rfl rfl (xo HT_.out (by kernel_rfl)) (fun _ _ _ h => h) (Or.inl ⟨by rfl, ?_⟩) ?_ ?_
         rotate_left
         ·intro w'
          go_simp
          with_reducible rfl
         rotate_left
         ·simp only [Act.put, List.setIfInBounds_toArray, List.set_cons_zero, List.set_cons_succ, zk, zm]
          rfl
         refine kg (i := 7) (N := some 26) (v := ?_) (a' := ?_) #[true, false, true, false, false, true, false, true, false, false, false, false] rfl rfl (xo HT_.out (by kernel_rfl)) (fun _ _ _ h => h) (Or.inl ⟨by rfl, ?_⟩) ?_ ?_
         rotate_left
         ·intro w'
          go_simp
          with_reducible rfl
         rotate_left
         ·simp only [Act.put, List.setIfInBounds_toArray, List.set_cons_zero, List.set_cons_succ, zk, zm]
          rfl
         refine take_ (i := 1) (N := some 20) (v := ?_) (a' := ?_) #[true, true, true, false, false, true, false, true, false, false, false, false] rfl rfl (kd HT_.out HW_.out (by kernel_rfl)) (fun _ _ _ h => h) (Or.inl ⟨by rfl, ?_⟩) hHeld ?_ ?_
         rotate_left
         ·rintro w' ⟨s0, s1, s2, s3⟩
          go_simp
          with_reducible rfl
         rotate_left
         ·simp only [Act.put, List.setIfInBounds_toArray, List.set_cons_zero, List.set_cons_succ, zk, zm]
          rfl
         refine kg (i := 3) (N := some 22) (v := ?_) (a' := ?_) #[true, true, true, true, false, true, false, true, false, false, false, false] rfl rfl (xo HT_.out (by kernel_rfl)) (fun _ _ _ h => h) (Or.inl ⟨by rfl, ?_⟩) ?_ ?_
         rotate_left
         ·intro w'
          go_simp
          with_reducible rfl
         rotate_left
         ·simp only [Act.put, List.setIfInBounds_toArray, List.set_cons_zero, List.set_cons_succ, zk, zm]
          rfl
         refine take_ (i := 4) (N := some 23) (v := ?_) (a' := ?_) #[true, true, true, true, true, true, false, true, false, false, false, false] rfl rfl (kd HT_.out HW_.out (by kernel_rfl)) (fun _ _ _ h => h) (Or.inl ⟨by rfl, ?_⟩) hHeld ?_ ?_
         rotate_left
         ·rintro w' ⟨s0, s1, s2, s3⟩
          go_simp
          with_reducible rfl
         rotate_left
         ·simp only [Act.put, List.setIfInBounds_toArray, List.set_cons_zero, List.set_cons_succ, zk, zm]
          rfl
         refine take_ (i := 6) (N := some 25) (v := ?_) (a' := ?_) #[true, true, true, true, true, true, true, true, false, false, false, false] rfl rfl (kd HT_.out HW_.out (by kernel_rfl)) (fun _ _ _ h => h) (Or.inl ⟨by rfl, ?_⟩) hHeld ?_ ?_
         rotate_left
         ·rintro w' ⟨s0, s1, s2, s3⟩
          go_simp
          with_reducible rfl
         rotate_left
         ·simp only [Act.put, List.setIfInBounds_toArray, List.set_cons_zero, List.set_cons_succ, zk, zm]
          rfl
         refine kg (i := 8) (N := some 27) (v := ?_) (a' := ?_) #[true, true, true, true, true, true, true, true, true, false, false, false] rfl rfl (xo HT_.out (by kernel_rfl)) (fun _ _ _ h => h) (Or.inl ⟨by rfl, ?_⟩) ?_ ?_
         rotate_left
         ·intro w'
          go_simp
          with_reducible rfl
         rotate_left
         ·simp only [Act.put, List.setIfInBounds_toArray, List.set_cons_zero, List.set_cons_succ, zk, zm]
          rfl
         refine take_ (i := 9) (N := some 28) (v := ?_) (a' := ?_) #[true, true, true, true, true, true, true, true, true, true, false, false] rfl rfl (kd HT_.out HW_.out (by kernel_rfl)) (fun _ _ _ h => h) (Or.inl ⟨by rfl, ?_⟩) hHeld ?_ ?_
         rotate_left
         ·rintro w' ⟨s0, s1, s2, s3⟩
          go_simp
          with_reducible rfl
         rotate_left
         ·simp only [Act.put, List.setIfInBounds_toArray, List.set_cons_zero, List.set_cons_succ, zk, zm]
          rfl
         refine one_ (i := 10) (N := some 29) #[true, true, true, true, true, true, true, true, true, true, true, false] rfl rfl (one_of HT_.out (by kernel_rfl)) (by decide) (fun K hK => ?_)
         refine goes_ Tryd.func24 (by kernel_rfl) rfl #[.slice A136_0 (xq l0_0 x16_1).length c136_0, .slice A137_0 (xq l1_0 x16_1).length c137_0] (by rfl) rfl rfl (by (try simp only [List.map_toArray, List.map_cons, List.map_nil]); first | done | rfl | (simp only [List.length_drop, List.length_take]; rfl)) ?_
         with_reducible refine (zu.calls k1 _ _ (xq l0_0 x16_1) _ _ (xq l1_0 x16_1) true _ ?side1 ?side2 ?side3 ?side4 A18.out).mono ?_
         (case side1 => repeat (first | exact (Kd.ka HR136_0.out HB.out) | (with_reducible refine Kd.ki ?_ _) | (with_reducible refine Kd.kj ?_ _) | (with_reducible refine Kd.C_drew ?_)))
         (case side2 => exact HC136_0.out)
         (case side3 => repeat (first | exact (Kd.ka HR137_0.out HB.out) | (with_reducible refine Kd.ki ?_ _) | (with_reducible refine Kd.kj ?_ _) | (with_reducible refine Kd.C_drew ?_)))
         (case side4 => exact HC137_0.out)
         rintro e w21 ⟨rfl, hb⟩
         refine ⟨_, rfl, ?_⟩
         have n0_ := qb.mk (qz (g := gb134) (o := .cells #[.slice (some ad136) l0_0.length c0_0] 24 (0, 0)) (by (with_reducible repeat (first | refine qi ?_ _ | refine ql ?_ | refine qg ?_ _)); exact BK134.out) hb)
         have n1_ := qb.mk (qz (g := gb135) (o := .cells #[.slice (some ad137) l1_0.length c1_0] 24 (0, 0)) (by (with_reducible repeat (first | refine qi ?_ _ | refine ql ?_ | refine qg ?_ _)); exact BK135.out) hb)
         have n2_ := qb.mk (qr (by repeat (first | (with_reducible first | exact HB.out | apply qc | apply qa | apply qd | refine qh ?_ GE134.out | refine qh ?_ GE135.out) | exact HB.out)) hb)
         clear BK134
         clear BK135
         clear HB
         have BK134 := n0_
         have BK135 := n1_
         have HB := n2_
         clear n0_ n1_ n2_
         (try clear hb)
         (try clear hb2)
         (try clear hk)
         (try clear hi)
         refine hK.out _ _ ⟨(qq BK134.out 0).trans rfl, (qq BK135.out 0).trans rfl, ((HB.out.cell (World.block_lt_of_cell? w _ hw136_0)).trans hw136_0), ((HB.out.cell (World.block_lt_of_cell? w _ hw137_0)).trans hw137_0)⟩ (fun hHeld => ?_)
         clear hK K
         refine norm_ (a' := ?_) ?_ ?_
         rotate_left
         ·show Act.put _ (some 29) _ = _
          simp only [Act.put, List.setIfInBounds_toArray, List.set_cons_zero, List.set_cons_succ, zk, zm]
          rfl
         refine kg (i := 11) (N := some 30) (v := ?_) (a' := ?_) #[true, true, true, true, true, true, true, true, true, true, true, true] rfl rfl (xo HT_.out (by kernel_rfl)) (fun _ _ _ h => h) (Or.inl ⟨by rfl, ?_⟩) ?_ ?_
         rotate_left
         ·intro w'
          go_simp
          with_reducible rfl
         rotate_left
         ·simp only [Act.put, List.setIfInBounds_toArray, List.set_cons_zero, List.set_cons_succ, zk, zm]
          rfl
         refine done_ (done_of HT_.out (by kernel_rfl)) ?_
         try go_wp2
         go_roundg k1
         case measure => have := HK1.out; omega
         case rel => exact ⟨(wrap64 (x16_1 + 1)), (by first | rfl | (simp; done) | (simp [*]; done)), H', ⟨by have := HK1.out; omega⟩, ⟨by (with_reducible repeat (first | refine qi ?_ _ | refine ql ?_ | refine qg ?_ _)); exact BK134.out⟩, ⟨by (with_reducible repeat (first | refine qi ?_ _ | refine ql ?_ | refine qg ?_ _)); exact BK135.out⟩, ⟨by repeat (first | (with_reducible first | exact HB.out | apply qc | apply qa | apply qd | refine qh ?_ GE134.out | refine qh ?_ GE135.out) | exact HB.out)⟩⟩
        ·replace c19 := Bool.eq_false_iff.mpr c19
         subst c19
         have H1 : (some false) = some r := by rw [if_neg (show ¬ (false = true) by decide)] at H; exact H
         clear H
         have H := H1
         clear H1
         obtain rfl := Option.some.inj H
         try go_wp2
         have n0_ := qb.mk (ql BK134.out)
         have n1_ := qb.mk (ql BK135.out)
         have n2_ := qb.mk (qd HB.out)
         clear BK134
         clear BK135
         clear HB
         have BK134 := n0_
         have BK135 := n1_
         have HB := n2_
         clear n0_ n1_ n2_
         have p136 : 0 ≤ (x16_1 : Int) := of_decide_eq_true (by first | (with_reducible assumption) | assumption)
         have q136 : x16_1 < (l0_0.length : Int) := of_decide_eq_true (by first | (with_reducible assumption) | assumption)
         obtain ⟨ad136, A136_0, c136_0, e136, hx136_0, hl136_0, hi136_0⟩ := at_L4 HR0_0.out x16_1 p136 q136
         have hw136_0 := hx136_0
         cases e136
         replace hx136_0 := (HB.out.cell (World.block_lt_of_cell? w _ hx136_0)).trans hx136_0
         have HR136_0 := qb.mk hi136_0
         have HC136_0 := qb.mk hl136_0
         clear hi136_0 hl136_0
         replace p136 := eq_true p136
         replace q136 := eq_true q136
         have p137 : 0 ≤ (x16_1 : Int) := of_decide_eq_true (by first | (with_reducible assumption) | assumption)
         have q137 : x16_1 < (l1_0.length : Int) := of_decide_eq_true (by first | (with_reducible assumption) | assumption)
         obtain ⟨ad137, A137_0, c137_0, e137, hx137_0, hl137_0, hi137_0⟩ := at_L4 HR1_0.out x16_1 p137 q137
         have hw137_0 := hx137_0
         cases e137
         replace hx137_0 := (HB.out.cell (World.block_lt_of_cell? w _ hx137_0)).trans hx137_0
         have HR137_0 := qb.mk hi137_0
         have HC137_0 := qb.mk hl137_0
         clear hi137_0 hl137_0
         replace p137 := eq_true p137
         replace q137 := eq_true q137
         refine start_ (n := 12) (S := fun w' => w'.cell? ⟨gb134, 0, none⟩ = some (.slice (some ad136) l0_0.length c0_0) ∧ w'.cell? ⟨gb135, 0, none⟩ = some (.slice (some ad137) l1_0.length c1_0) ∧ w'.cell? (ad136.add (x16_1).toNat) = some (.slice A136_0 (xq l0_0 x16_1).length c136_0) ∧ w'.cell? (ad137.add (x16_1).toNat) = some (.slice A137_0 (xq l1_0 x16_1).length c137_0)) (ds := []) #[false, false, false, false, false, false, false, false, false, false, false, false] (by kernel_rfl) rfl rfl ⟨(qq BK134.out 0).trans rfl, (qq BK135.out 0).trans rfl, ((HB.out.cell (World.block_lt_of_cell? w _ hw136_0)).trans hw136_0), ((HB.out.cell (World.block_lt_of_cell? w _ hw137_0)).trans hw137_0)⟩ (fun hHeld => ?_); refine with_tabW ze.tab6 ze.bits6 (fun HT_ HW_ => ?_)
         generalize wr.drew = w22 at BK134 BK135 HB HR136_0 HR137_0 hx136_0 hx137_0 hHeld ⊢
         refine kg (i := 0) (N := some 19) (v := ?_) (a' := ?_) #[true, false, false, false, false, false, false, false, false, false, false, false] rfl rfl (xo HT_.out (by kernel_rfl)) (fun _ _ _ h => h) (Or.inl ⟨by rfl, ?_⟩) ?_ ?_
         rotate_left
         ·intro w'
          go_simp
          with_reducible rfl
         rotate_left
         ·simp only [Act.put, List.setIfInBounds_toArray, List.set_cons_zero, List.set_cons_succ, zk, zm]
          rfl
         refine kg (i := 2) (N := some 21) (v := ?_) (a' := ?_) #[true, false, true, false, false, false, false, false, false, false, false, false] rfl rfl (xo HT_.out (by kernel_rfl)) (fun _ _ _ h => h) (Or.inl ⟨by rfl, ?_⟩) ?_ ?_
         rotate_left
         ·intro w'
          go_simp
          with_reducible rfl
         rotate_left
         ·simp only [Act.put, List.setIfInBounds_toArray, List.set_cons_zero, List.set_cons_succ, zk, zm]
          rfl
         refine kg (i := 5) (N := some 24) (v := ?_) (a' := ?_) #[true, false, true, false, false, true, false, false, false, false, false, false] rfl rfl (xo HT_.out (by kernel_rfl)) (fun _ _ _ h => h) (Or.inl ⟨by rfl, ?_⟩) ?_ ?_
         rotate_left
         ·intro w'
          go_simp
          with_reducible rfl
         rotate_left
         ·simp only [Act.put, List.setIfInBounds_toArray, List.set_cons_zero, List.set_cons_succ, zk, zm]
          rfl
         refine kg (i := 7) (N := some 26) (v := ?_) (a' := ?_) #[true, false, true, false, false, true, false, true, false, false, false, false] rfl rfl (xo HT_.out (by kernel_rfl)) (fun _ _ _ h => h) (Or.inl ⟨by rfl, ?_⟩) ?_ ?_
         rotate_left
         ·intro w'
          go_simp
          with_reducible rfl
         rotate_left
         ·simp only [Act.put, List.setIfInBounds_toArray, List.set_cons_zero, List.set_cons_succ, zk, zm]
          rfl
         refine take_ (i := 1) (N := some 20) (v := ?_) (a' := ?_) #[true, true, true, false, false, true, false, true, false, false, false, false] rfl rfl (kd HT_.out HW_.out (by kernel_rfl)) (fun _ _ _ h => h) (Or.inl ⟨by rfl, ?_⟩) hHeld ?_ ?_
         rotate_left
         ·rintro w' ⟨s0, s1, s2, s3⟩
          go_simp
          with_reducible rfl
         rotate_left
         ·simp only [Act.put, List.setIfInBounds_toArray, List.set_cons_zero, List.set_cons_succ, zk, zm]
          rfl
         refine kg (i := 3) (N := some 22) (v := ?_) (a' := ?_) #[true, true, true, true, false, true, false, true, false, false, false, false] rfl rfl (xo HT_.out (by kernel_rfl)) (fun _ _ _ h => h) (Or.inl ⟨by rfl, ?_⟩) ?_ ?_
         rotate_left
         ·intro w'
          go_simp
          with_reducible rfl
         rotate_left
         ·simp only [Act.put, List.setIfInBounds_toArray, List.set_cons_zero, List.set_cons_succ, zk, zm]
          rfl
         refine take_ (i := 4) (N := some 23) (v := ?_) (a' := ?_) #[true, true, true, true, true, true, false, true, false, false, false, false] rfl rfl (kd HT_.out HW_.out (by kernel_rfl)) (fun _ _ _ h => h) (Or.inl ⟨by rfl, ?_⟩) hHeld ?_ ?_
         rotate_left
         ·rintro w' ⟨s0, s1, s2, s3⟩
          go_simp
          with_reducible rfl
         rotate_left
         ·simp only [Act.put, List.setIfInBounds_toArray, List.set_cons_zero, List.set_cons_succ, zk, zm]
          rfl
         refine take_ (i := 6) (N := some 25) (v := ?_) (a' := ?_) #[true, true, true, true, true, true, true, true, false, false, false, false] rfl rfl (kd HT_.out HW_.out (by kernel_rfl)) (fun _ _ _ h => h) (Or.inl ⟨by rfl, ?_⟩) hHeld ?_ ?_
         rotate_left
         ·rintro w' ⟨s0, s1, s2, s3⟩
          go_simp
          with_reducible rfl
         rotate_left
         ·simp only [Act.put, List.setIfInBounds_toArray, List.set_cons_zero, List.set_cons_succ, zk, zm]
          rfl
         refine kg (i := 8) (N := some 27) (v := ?_) (a' := ?_) #[true, true, true, true, true, true, true, true, true, false, false, false] rfl rfl (xo HT_.out (by kernel_rfl)) (fun _ _ _ h => h) (Or.inl ⟨by rfl, ?_⟩) ?_ ?_
         rotate_left
         ·intro w'
          go_simp
          with_reducible rfl
         rotate_left
         ·simp only [Act.put, List.setIfInBounds_toArray, List.set_cons_zero, List.set_cons_succ, zk, zm]
          rfl
         refine take_ (i := 9) (N := some 28) (v := ?_) (a' := ?_) #[true, true, true, true, true, true, true, true, true, true, false, false] rfl rfl (kd HT_.out HW_.out (by kernel_rfl)) (fun _ _ _ h => h) (Or.inl ⟨by rfl, ?_⟩) hHeld ?_ ?_
         rotate_left
         ·rintro w' ⟨s0, s1, s2, s3⟩
          go_simp
          with_reducible rfl
         rotate_left
         ·simp only [Act.put, List.setIfInBounds_toArray, List.set_cons_zero, List.set_cons_succ, zk, zm]
          rfl
         refine one_ (i := 10) (N := some 29) #[true, true, true, true, true, true, true, true, true, true, true, false] rfl rfl (one_of HT_.out (by kernel_rfl)) (by decide) (fun K hK => ?_)
         refine goes_ Tryd.func24 (by kernel_rfl) rfl #[.slice A136_0 (xq l0_0 x16_1).length c136_0, .slice A137_0 (xq l1_0 x16_1).length c137_0] (by rfl) rfl rfl (by (try simp only [List.map_toArray, List.map_cons, List.map_nil]); first | done | rfl | (simp only [List.length_drop, List.length_take]; rfl)) ?_
         with_reducible refine (zu.calls k1 _ _ (xq l0_0 x16_1) _ _ (xq l1_0 x16_1) false _ ?side1 ?side2 ?side3 ?side4 A18.out).mono ?_
         (case side1 => repeat (first | exact (Kd.ka HR136_0.out HB.out) | (with_reducible refine Kd.ki ?_ _) | (with_reducible refine Kd.kj ?_ _) | (with_reducible refine Kd.C_drew ?_)))
         (case side2 => exact HC136_0.out)
         (case side3 => repeat (first | exact (Kd.ka HR137_0.out HB.out) | (with_reducible refine Kd.ki ?_ _) | (with_reducible refine Kd.kj ?_ _) | (with_reducible refine Kd.C_drew ?_)))
         (case side4 => exact HC137_0.out)
         rintro e w23 ⟨rfl, hb⟩
         refine ⟨_, rfl, ?_⟩
         have n0_ := qb.mk (qz (g := gb134) (o := .cells #[.slice (some ad136) l0_0.length c0_0] 24 (0, 0)) (by (with_reducible repeat (first | refine qi ?_ _ | refine ql ?_ | refine qg ?_ _)); exact BK134.out) hb)
         have n1_ := qb.mk (qz (g := gb135) (o := .cells #[.slice (some ad137) l1_0.length c1_0] 24 (0, 0)) (by (with_reducible repeat (first | refine qi ?_ _ | refine ql ?_ | refine qg ?_ _)); exact BK135.out) hb)
         have n2_ := qb.mk (qr (by repeat (first | (with_reducible first | exact HB.out | apply qc | apply qa | apply qd | refine qh ?_ GE134.out | refine qh ?_ GE135.out) | exact HB.out)) hb)
         clear BK134
         clear BK135
         clear HB
         have BK134 := n0_
         have BK135 := n1_
         have HB := n2_
         clear n0_ n1_ n2_
         (try clear hb)
         (try clear hb2)
         (try clear hk)
         (try clear hi)
         refine hK.out _ _ ⟨(qq BK134.out 0).trans rfl, (qq BK135.out 0).trans rfl, ((HB.out.cell (World.block_lt_of_cell? w _ hw136_0)).trans hw136_0), ((HB.out.cell (World.block_lt_of_cell? w _ hw137_0)).trans hw137_0)⟩ (fun hHeld => ?_)
         clear hK K
         refine norm_ (a' := ?_) ?_ ?_
         rotate_left
         ·show Act.put _ (some 29) _ = _
          simp only [Act.put, List.setIfInBounds_toArray, List.set_cons_zero, List.set_cons_succ, zk, zm]
          rfl
         refine kg (i := 11) (N := some 30) (v := ?_) (a' := ?_) #[true, true, true, true, true, true, true, true, true, true, true, true] rfl rfl (xo HT_.out (by kernel_rfl)) (fun _ _ _ h => h) (Or.inl ⟨by rfl, ?_⟩) ?_ ?_
         rotate_left
         ·intro w'
          go_simp
          with_reducible rfl
         rotate_left
         ·simp only [Act.put, List.setIfInBounds_toArray, List.set_cons_zero, List.set_cons_succ, zk, zm]
          rfl
         refine done_ (done_of HT_.out (by kernel_rfl)) ?_
         try go_wp2
         go_ret
         exact ⟨by first | rfl | (simp [qv, qu] <;> rfl) | (simp [*, qv, qu] <;> rfl), by repeat (first | (with_reducible first | exact HB.out | apply qc | apply qa | apply qd | refine qh ?_ GE134.out | refine qh ?_ GE135.out) | exact HB.out)⟩
       ·rw [if_neg c17] at H
        exact absurd H (by simp)
      ·rw [if_neg c16] at H
       exact absurd H (by simp)
     ·rw [if_neg c15] at H
      exact absurd H (by simp)
    ·rw [if_neg c14] at H
     have c14b0 : decide (x16_1 < (l1_0.length : Int)) = false := decide_eq_false c14
     clear c14
     obtain rfl := Option.some.inj H
     go_wp2
     go_ret
     exact ⟨by first | rfl | (simp [qv, qu] <;> rfl) | (simp [*, qv, qu] <;> rfl), by repeat (first | (with_reducible first | exact HB.out | apply qc | apply qa | apply qd | refine qh ?_ GE134.out | refine qh ?_ GE135.out) | exact HB.out)⟩
end Go.Proofs.YtjhlinifnjoefaaDoor.C
end
section
namespace Go.Proofs.YtjhlinifnjoefaaDoor.C
open Go.RowKit Go.Proofs.YtjhlinifnjoefaaDoorW.PrintWords Go.Proofs.YtjhlinifnjoefaaDoorW.PrintLast Go.Proofs.YtjhlinifnjoefaaDoorW.PrintMore
attribute [local go_sem] xf xd xm xn z7 z6 xc xe
set_option linter.unusedVariables false
set_option linter.unusedSimpArgs false
def zz.f (k : Nat) (l0_0 : List (List (S26))) (l1_0 : List (List (S26))) : Option (Bool) := if (l0_0.length : Int) = (l1_0.length : Int) then ((ze.f k l0_0 l1_0).bind fun t141 => (some t141)) else (some false)
theorem zz.mono : ∀ a0 a1 k, LeO (zz.f k a0 a1) (zz.f (k + 1) a0 a1) := by
 intro a0 a1 k
 unfold zz.f
 repeat' first
   | (with_reducible exact ze.mono _ _ _)
   | (with_reducible exact LeO.refl _)
   | (with_reducible exact LeO.none _)
   | (with_reducible refine LeO.ite ?_ ?_)
   | (with_reducible refine LeO.bind ?_ (fun _ => ?_))
set_option maxHeartbeats 8000000 in
set_option maxRecDepth 100000 in
theorem zz.calls (k : Nat) (A0_0 : Option Addr) (c0_0 : Nat) (l0_0 : List (List (S26))) (A1_0 : Option Addr) (c1_0 : Nat) (l1_0 : List (List (S26))) (r : Bool) (w : World) (hr0_0 : Kd.C (Kd.slice 26 k26) w A0_0 l0_0.length l0_0) (hc0_0 : l0_0.length ≤ c0_0) (hr1_0 : Kd.C (Kd.slice 26 k26) w A1_0 l1_0.length l1_0) (hc1_0 : l1_0.length ≤ c1_0) (h : zz.f k l0_0 l1_0 = some r) :
  Calls Tryd.prog 15 #[.agg #[.slice A0_0 l0_0.length c0_0], .agg #[.slice A1_0 l1_0.length c1_0]] w fun e w' => e = .returned (.bool r) ∧ Below w.heap.size w w' := by
 have hu24 := Tryd.underlying24
 have HR0_0 := qb.mk hr0_0
 have HC0_0 := qb.mk hc0_0
 clear hr0_0 hc0_0
 have HR1_0 := qb.mk hr1_0
 have HC1_0 := qb.mk hc1_0
 clear hr1_0 hc1_0
 have HB := qb.mk (Below.refl w.heap.size w)
 have H : (if (l0_0.length : Int) = (l1_0.length : Int) then ((ze.f k l0_0 l1_0).bind fun t141 => (some t141)) else (some false)) = some r := h
 clear h
 by_cases c3 : (l0_0.length : Int) = (l1_0.length : Int)
 ·rw [if_pos c3] at H
  have c3b0 : ((l0_0.length : Int) == (l1_0.length : Int)) = true := beq_iff_eq.mpr c3
  have c3b1 : ((l0_0.length : Int) != (l1_0.length : Int)) = false := bne_eq_false_iff_eq.mpr c3
  have c3b2 : (l0_0.length == l1_0.length) = true := by first | simpa using c3 | (simp at c3 ⊢; omega)
  clear c3
  replace H := Option.bind_eq_some_iff.mp H
  obtain ⟨t141, A40, H⟩ := H
  replace H : (some t141) = some r := H
  have A4 := qb.mk A40
  clear A40
  obtain rfl := Option.some.inj H
  go_enter Tryd.func15, Tryd.ntmps15
  go_wp2_with (first | ((with_reducible refine zl (N := 2) rfl ?_); refine zi ?hg (N := 2) ?hd (cs := #[.slice A0_0 l0_0.length c0_0]) (t := 24) ?hr ?_; (case hd => rfl); (case hg => rfl); (case hr => first | (go_simp; done) | (go_simp; rfl)); intro gb139 hg w5 hbox hb; have n0_ := qb.mk (qr (by repeat (first | (with_reducible first | exact HB.out | apply qc | apply qa | apply qd) | exact HB.out)) hb); have n1_ := qb.mk (hbox); have n2_ := qb.mk ((by rw [hg]; exact (qt (by repeat (first | (with_reducible first | exact HB.out | apply qc | apply qa | apply qd) | exact HB.out))) : w.heap.size ≤ gb139)); have n3_ := qb.mk ((by rw [hg]; exact (qt (by repeat (first | (with_reducible first | exact HB.out | apply qc | apply qa | apply qd) | exact HB.out))) : w.heap.size ≤ gb139)); clear HB; have HB := n0_; have BK139 := n1_; have GW139 := n2_; have GE139 := n3_; clear n0_ n1_ n2_ n3_; clear hb hbox hg) | ((with_reducible refine zl (N := 3) rfl ?_); refine zi ?hg (N := 3) ?hd (cs := #[.slice A1_0 l1_0.length c1_0]) (t := 24) ?hr ?_; (case hd => rfl); (case hg => rfl); (case hr => first | (go_simp; done) | (go_simp; rfl)); intro gb140 hg w6 hbox hb; have n0_ := qb.mk (qz (g := gb139) (o := .cells #[.slice A0_0 l0_0.length c0_0] 24 (0, 0)) (by (with_reducible repeat (first | refine qi ?_ _ | refine ql ?_ | refine qg ?_ _)); exact BK139.out) hb); have n1_ := qb.mk (qr (by repeat (first | (with_reducible first | exact HB.out | apply qc | apply qa | apply qd | refine qh ?_ GE139.out) | exact HB.out)) hb); have n2_ := qb.mk (hbox); have n3_ := qb.mk ((by rw [hg]; exact (qt (by repeat (first | (with_reducible first | exact HB.out | apply qc | apply qa | apply qd | refine qh ?_ GE139.out) | exact HB.out))) : w.heap.size ≤ gb140)); have n4_ := qb.mk ((by rw [hg]; exact (qt (by repeat (first | (with_reducible first | exact HB.out | apply qc | apply qa | apply qd | refine qh ?_ GE139.out) | exact HB.out))) : w.heap.size ≤ gb140)); have n5_ := qb.mk ((by rw [hg]; exact Nat.ne_of_lt (z8 (g := gb139) (o := .cells #[.slice A0_0 l0_0.length c0_0] 24 (0, 0)) (by (with_reducible repeat (first | refine qi ?_ _ | refine ql ?_ | refine qg ?_ _)); exact BK139.out)) : gb139 ≠ gb140)); have n6_ := qb.mk ((by rw [hg]; exact Nat.ne_of_gt (z8 (g := gb139) (o := .cells #[.slice A0_0 l0_0.length c0_0] 24 (0, 0)) (by (with_reducible repeat (first | refine qi ?_ _ | refine ql ?_ | refine qg ?_ _)); exact BK139.out)) : gb140 ≠ gb139)); clear BK139; clear HB; have BK139 := n0_; have HB := n1_; have BK140 := n2_; have GW140 := n3_; have GE140 := n4_; have NB139_140 := n5_; have NB140_139 := n6_; clear n0_ n1_ n2_ n3_ n4_ n5_ n6_; clear hb hbox hg; have hnb7 := NB139_140.out; have hnc7 := NB140_139.out; have hcz8_0 : w6.cell? ⟨gb139, 0, none⟩ = some (.slice A0_0 l0_0.length c0_0) := (qq BK139.out 0).trans rfl; have hfz8_0 := qo BK139.out 0; have hcz9_0 : w6.cell? ⟨gb140, 0, none⟩ = some (.slice A1_0 l1_0.length c1_0) := (qq BK140.out 0).trans rfl; have hfz9_0 := qo BK140.out 0) | (go_at_call 17; (with_reducible refine (ze.calls k _ _ l0_0 _ _ l1_0 t141 _ ?side1 ?side2 ?side3 ?side4 A4.out).mono ?_); (case side1 => repeat (first | exact (Kd.ka HR0_0.out HB.out) | (with_reducible refine Kd.ki ?_ _) | (with_reducible refine Kd.kj ?_ _) | (with_reducible refine Kd.C_drew ?_))); (case side2 => exact HC0_0.out); (case side3 => repeat (first | exact (Kd.ka HR1_0.out HB.out) | (with_reducible refine Kd.ki ?_ _) | (with_reducible refine Kd.kj ?_ _) | (with_reducible refine Kd.C_drew ?_))); (case side4 => exact HC1_0.out); rintro e w10 ⟨rfl, hb⟩; have n0_ := qb.mk (qz (g := gb139) (o := .cells #[.slice A0_0 l0_0.length c0_0] 24 (0, 0)) (by (with_reducible repeat (first | refine qi ?_ _ | refine ql ?_ | refine qg ?_ _)); exact BK139.out) hb); have n1_ := qb.mk (qz (g := gb140) (o := .cells #[.slice A1_0 l1_0.length c1_0] 24 (0, 0)) (by (with_reducible repeat (first | refine qi ?_ _ | refine ql ?_ | refine qg ?_ _)); exact BK140.out) hb); have n2_ := qb.mk (qr (by repeat (first | (with_reducible first | exact HB.out | apply qc | apply qa | apply qd | refine qh ?_ GE139.out | refine qh ?_ GE140.out) | exact HB.out)) hb); clear BK139; clear BK140; clear HB; have BK139 := n0_; have BK140 := n1_; have HB := n2_; clear n0_ n1_ n2_; (try clear hb); (try clear hb2); (try clear hk); (try clear hi)))
  go_ret
  exact ⟨by first | rfl | (simp [qv, qu] <;> rfl) | (simp [*, qv, qu] <;> rfl), by repeat (first | (with_reducible first | exact HB.out | apply qc | apply qa | apply qd | refine qh ?_ GE139.out | refine qh ?_ GE140.out) | exact HB.out)⟩
 ·rw [if_neg c3] at H
  have c3b0 : ((l0_0.length : Int) == (l1_0.length : Int)) = false := beq_eq_false_iff_ne.mpr c3
  have c3b1 : ((l0_0.length : Int) != (l1_0.length : Int)) = true := bne_iff_ne.mpr c3
  have c3b2 : (l0_0.length == l1_0.length) = false := by first | simpa using c3 | (simp at c3 ⊢; omega)
  obtain rfl := Option.some.inj H
  go_enter Tryd.func15, Tryd.ntmps15
  go_wp2_with (first | ((with_reducible refine zl (N := 2) rfl ?_); refine zi ?hg (N := 2) ?hd (cs := #[.slice A0_0 l0_0.length c0_0]) (t := 24) ?hr ?_; (case hd => rfl); (case hg => rfl); (case hr => first | (go_simp; done) | (go_simp; rfl)); intro gb139 hg w11 hbox hb; have n0_ := qb.mk (qr (by repeat (first | (with_reducible first | exact HB.out | apply qc | apply qa | apply qd) | exact HB.out)) hb); have n1_ := qb.mk (hbox); have n2_ := qb.mk ((by rw [hg]; exact (qt (by repeat (first | (with_reducible first | exact HB.out | apply qc | apply qa | apply qd) | exact HB.out))) : w.heap.size ≤ gb139)); have n3_ := qb.mk ((by rw [hg]; exact (qt (by repeat (first | (with_reducible first | exact HB.out | apply qc | apply qa | apply qd) | exact HB.out))) : w.heap.size ≤ gb139)); clear HB; have HB := n0_; have BK139 := n1_; have GW139 := n2_; have GE139 := n3_; clear n0_ n1_ n2_ n3_; clear hb hbox hg) | ((with_reducible refine zl (N := 3) rfl ?_); refine zi ?hg (N := 3) ?hd (cs := #[.slice A1_0 l1_0.length c1_0]) (t := 24) ?hr ?_; (case hd => rfl); (case hg => rfl); (case hr => first | (go_simp; done) | (go_simp; rfl)); intro gb140 hg w12 hbox hb; have n0_ := qb.mk (qz (g := gb139) (o := .cells #[.slice A0_0 l0_0.length c0_0] 24 (0, 0)) (by (with_reducible repeat (first | refine qi ?_ _ | refine ql ?_ | refine qg ?_ _)); exact BK139.out) hb); have n1_ := qb.mk (qr (by repeat (first | (with_reducible first | exact HB.out | apply qc | apply qa | apply qd | refine qh ?_ GE139.out) | exact HB.out)) hb); have n2_ := qb.mk (hbox); have n3_ := qb.mk ((by rw [hg]; exact (qt (by repeat (first | (with_reducible first | exact HB.out | apply qc | apply qa | apply qd | refine qh ?_ GE139.out) | exact HB.out))) : w.heap.size ≤ gb140)); have n4_ := qb.mk ((by rw [hg]; exact (qt (by repeat (first | (with_reducible first | exact HB.out | apply qc | apply qa | apply qd | refine qh ?_ GE139.out) | exact HB.out))) : w.heap.size ≤ gb140)); have n5_ := qb.mk ((by rw [hg]; exact Nat.ne_of_lt (z8 (g := gb139) (o := .cells #[.slice A0_0 l0_0.length c0_0] 24 (0, 0)) (by (with_reducible repeat (first | refine qi ?_ _ | refine ql ?_ | refine qg ?_ _)); exact BK139.out)) : gb139 ≠ gb140)); have n6_ := qb.mk ((by rw [hg]; exact Nat.ne_of_gt (z8 (g := gb139) (o := .cells #[.slice A0_0 l0_0.length c0_0] 24 (0, 0)) (by (with_reducible repeat (first | refine qi ?_ _ | refine ql ?_ | refine qg ?_ _)); exact BK139.out)) : gb140 ≠ gb139)); clear BK139; clear HB; have BK139 := n0_; have HB := n1_; have BK140 := n2_; have GW140 := n3_; have GE140 := n4_; have NB139_140 := n5_; have NB140_139 := n6_; clear n0_ n1_ n2_ n3_ n4_ n5_ n6_; clear hb hbox hg; have hnb13 := NB139_140.out; have hnc13 := NB140_139.out; have hcz14_0 : w12.cell? ⟨gb139, 0, none⟩ = some (.slice A0_0 l0_0.length c0_0) := (qq BK139.out 0).trans rfl; have hfz14_0 := qo BK139.out 0; have hcz15_0 : w12.cell? ⟨gb140, 0, none⟩ = some (.slice A1_0 l1_0.length c1_0) := (qq BK140.out 0).trans rfl; have hfz15_0 := qo BK140.out 0))
  go_ret
  exact ⟨by first | rfl | (simp [qv, qu] <;> rfl) | (simp [*, qv, qu] <;> rfl), by repeat (first | (with_reducible first | exact HB.out | apply qc | apply qa | apply qd | refine qh ?_ GE139.out | refine qh ?_ GE140.out) | exact HB.out)⟩
def strings_Split.f (a0 a1 : ByteArray) : Option (List ByteArray) := if 1 ≤ a1.size ∧ a0.size < 4294967281 then some (Lib.splitB a1 0 (Lib.countB a0 a1) a0) else none
theorem strings_Split.calls (a0 : ByteArray) (a1 : ByteArray) (r : List ByteArray) (w : World) (hG : LibHeld w) (h : strings_Split.f a0 a1 = some r) :
  Calls Tryd.prog 30 #[.string a0, .string a1] w fun e w' => ∃ v0_ : Value, e = .returned (v0_) ∧ Kd.R Kd.string 9 w' w.heap.size (fun _ => True) v0_ r ∧ Below w.heap.size w w' := by
 unfold strings_Split.f at h
 split at h
 ·rename_i hc
  obtain rfl := Option.some.inj h
  obtain ⟨m, hm⟩ := hG.maxLen
  refine (Tryd.strings_Split a0 a1 m w hc.2 hm hc.1).mono fun e w' ⟨he, hw⟩ => ?_
  have hl := Lib.splitB_all a1 hc.1 0 _ a0 rfl
  subst hw
  refine ⟨_, he, Kd.R_strs w _ hl (by have := Lib.countB_le a1 hc.1 a0.size a0 (Nat.le_refl _); omega), qc (Below.refl _ _) _⟩
 ·exact absurd h (by simp)
end Go.Proofs.YtjhlinifnjoefaaDoor.C
end
