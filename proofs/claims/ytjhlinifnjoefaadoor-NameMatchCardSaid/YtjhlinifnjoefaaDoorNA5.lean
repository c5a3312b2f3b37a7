/- Words, walks and plain laws that the claim rests on, gathered. -/
import Derived.Below
import Derived.Deep.Draws
import Derived.Deep.AppendLies
import Derived.Maps.AppendAt
import Derived.OwnWalk
import Derived.Laws.BytesArg
import Derived.Laws.MakeOwn
import Derived.Laws.OwnMore
import Derived.Deep.OwnRows
import Derived.Tactics
import Derived.Lib.ConvBytes
import Derived.Laws.Slices
import Derived.WalkKit
import Derived.KernelRfl
import Derived.RowKit3
import Derived.Deep.LoopGhost
import Derived.Deep.QuietTactic
import Derived.BigQuiet
import Derived.WideLaws
import Derived.Deep.DeepCutAuto
import Derived.Deep.CutBlock
import Derived.Deep.RegionHeld3
import Derived.Laws.Rows
import Derived.Lib.AppendStr
import Derived.ArgAppend
import Derived.Laws.IdiomCopy
import Derived.RowKit
import Derived.OrdersHeld
import Derived.Laws.BitsLemmas
import Derived.Laws.StructEq
import Derived.Test.YtjhlinifnjoefaaDoorProg
import Derived.WalkSpells
import Derived.Shelf.Small.Strs
import Derived.Shelf.Strings.Search1
import Derived.Shelf.Strings.Search2
import Derived.Shelf.Strings.Search3
import Derived.Shelf.Strings.Cut
import Derived.Shelf.Strings.Count
import Derived.Shelf.LaysM
import Derived.Shelf.Strings.Shaped
import Derived.Shelf.Strings.Prefix
import Derived.Shelf.Strings.Split
import Derived.Shelf.Strings.SplitShaped
import Derived.Shelf.Unicode.DecodeSlow
import Derived.Test.YtjhlinifnjoefaaDoorNA0
import Derived.Test.YtjhlinifnjoefaaDoorNA1
import Derived.Test.YtjhlinifnjoefaaDoorNA2
import Derived.Test.YtjhlinifnjoefaaDoorNA3
import Derived.Test.YtjhlinifnjoefaaDoorNA4
namespace Go.Proofs.YtjhlinifnjoefaaDoorW.PrintLast
end Go.Proofs.YtjhlinifnjoefaaDoorW.PrintLast
namespace Go.Proofs.YtjhlinifnjoefaaDoorW.PrintMore
end Go.Proofs.YtjhlinifnjoefaaDoorW.PrintMore
namespace Go.Proofs.YtjhlinifnjoefaaDoorW.PrintWords
end Go.Proofs.YtjhlinifnjoefaaDoorW.PrintWords
section
namespace Go.Proofs.YtjhlinifnjoefaaDoor.C
open Go.RowKit Go.Proofs.YtjhlinifnjoefaaDoorW.PrintWords Go.Proofs.YtjhlinifnjoefaaDoorW.PrintLast Go.Proofs.YtjhlinifnjoefaaDoorW.PrintMore
attribute [local go_sem] xr xp xw xx xf xe xq xo
set_option linter.unusedVariables false
set_option linter.unusedSimpArgs false
mutual
def qu.l0 : Nat → List (S26) → List (S26) → Int → Int → Option (Int)
 | 0, _, _, _, _ => none
 | k + 1, x0, x13, x14, x15 => if x15 < x14 then (if 0 ≤ x15 then (if x15 < (x13.length : Int) then ((xh.f k ((qn x13 x15).f0)).bind fun t158 => (if t158 = true then (if ((qn x13 x15).f2).toList = ([] : List UInt8) then (qu.j1 k x0 x15 x13 x14 x15 true ((qn x13 x15).f0) ((qn x13 x15).f1) ((qn x13 x15).f2)) else ((k6.f ((qn x13 x15).f1) ((qn x13 x15).f2)).bind fun t159 => (qu.j1 k x0 x15 x13 x14 x15 (!t159) ((qn x13 x15).f0) ((qn x13 x15).f1) ((qn x13 x15).f2)))) else (some 11))) else (none)) else (none)) else (some 0)
def qu.j1 : Nat → List (S26) → Int → List (S26) → Int → Int → Bool → ByteArray → Int → ByteArray → Option (Int)
 | 0, _, _, _, _, _, _, _, _, _ => none
 | k + 1, x0, x3, x13, x14, x15, x34, x158000, x158001, x158002 => if x34 = true then (some 13) else (if (x158002.size : Int) > 64 then (some 2) else (if 0 ≤ x3 then (if x3 ≤ (x0.length : Int) then ((some (x0.take (x3 : Int).toNat : List (S26))).bind fun y160 => (qu.l1 k x0 x13 x14 x15 y160 (y160.length : Int) 0 x158000 x158001 x158002)) else (none)) else (none)))
def qu.l1 : Nat → List (S26) → List (S26) → Int → Int → List (S26) → Int → Int → ByteArray → Int → ByteArray → Option (Int)
 | 0, _, _, _, _, _, _, _, _, _, _ => none
 | k + 1, x0, x13, x14, x15, x41, x42, x43, x158000, x158001, x158002 => if x43 < x42 then (if 0 ≤ x43 then (if x43 < (x41.length : Int) then (if ((qn x41 x43).f0).toList = x158000.toList then (some 10) else (qu.l1 k x0 x13 x14 x15 x41 x42 (wrap64 (x43 + 1)) x158000 x158001 x158002)) else (none)) else (none)) else (qu.l0 k x0 x13 x14 (wrap64 (x15 + 1)))
end
def qu.f (k : Nat) (l0 : List (S26)) : Option (Int) := if (l0.length : Int) = 0 then (some 14) else (if (l0.length : Int) > 4 then (some 2) else (qu.l0 k l0 l0 (l0.length : Int) 0))
theorem qu.xu : ∀ k, (∀ y0 y1 y2 y3, LeO (qu.l0 k y0 y1 y2 y3) (qu.l0 (k + 1) y0 y1 y2 y3)) ∧ (∀ y0 y1 y2 y3 y4 y5 y6 y7 y8, LeO (qu.j1 k y0 y1 y2 y3 y4 y5 y6 y7 y8) (qu.j1 (k + 1) y0 y1 y2 y3 y4 y5 y6 y7 y8)) ∧ (∀ y0 y1 y2 y3 y4 y5 y6 y7 y8 y9, LeO (qu.l1 k y0 y1 y2 y3 y4 y5 y6 y7 y8 y9) (qu.l1 (k + 1) y0 y1 y2 y3 y4 y5 y6 y7 y8 y9))
 | 0 => ⟨fun _ _ _ _ r h => by simp [qu.l0] at h, fun _ _ _ _ _ _ _ _ _ r h => by simp [qu.j1] at h, fun _ _ _ _ _ _ _ _ _ _ r h => by simp [qu.l1] at h⟩
 | k + 1 => by
  obtain ⟨ih0, ih1, ih2⟩ := qu.xu k
  refine ⟨?_, ?_, ?_⟩
  ·intro y0 y1 y2 y3
   unfold qu.l0
   repeat' first
   | (with_reducible exact ih0 _ _ _ _)
   | (with_reducible exact ih1 _ _ _ _ _ _ _ _ _)
   | (with_reducible exact ih2 _ _ _ _ _ _ _ _ _ _)
   | (with_reducible exact xh.mono _ _)
   | (with_reducible exact LeO.refl _)
   | (with_reducible exact LeO.none _)
   | (with_reducible refine LeO.ite ?_ ?_)
   | (with_reducible refine LeO.bind ?_ (fun _ => ?_))
  ·intro y0 y1 y2 y3 y4 y5 y6 y7 y8
   unfold qu.j1
   repeat' first
   | (with_reducible exact ih0 _ _ _ _)
   | (with_reducible exact ih1 _ _ _ _ _ _ _ _ _)
   | (with_reducible exact ih2 _ _ _ _ _ _ _ _ _ _)
   | (with_reducible exact xh.mono _ _)
   | (with_reducible exact LeO.refl _)
   | (with_reducible exact LeO.none _)
   | (with_reducible refine LeO.ite ?_ ?_)
   | (with_reducible refine LeO.bind ?_ (fun _ => ?_))
  ·intro y0 y1 y2 y3 y4 y5 y6 y7 y8 y9
   unfold qu.l1
   repeat' first
   | (with_reducible exact ih0 _ _ _ _)
   | (with_reducible exact ih1 _ _ _ _ _ _ _ _ _)
   | (with_reducible exact ih2 _ _ _ _ _ _ _ _ _ _)
   | (with_reducible exact xh.mono _ _)
   | (with_reducible exact LeO.refl _)
   | (with_reducible exact LeO.none _)
   | (with_reducible refine LeO.ite ?_ ?_)
   | (with_reducible refine LeO.bind ?_ (fun _ => ?_))
theorem qu.mono : ∀ a0 k, LeO (qu.f k a0) (qu.f (k + 1) a0) := by
 intro a0 k
 obtain ⟨ih0, ih1, ih2⟩ := qu.xu k
 unfold qu.f
 repeat' first
   | (with_reducible exact ih0 _ _ _ _)
   | (with_reducible exact ih1 _ _ _ _ _ _ _ _ _)
   | (with_reducible exact ih2 _ _ _ _ _ _ _ _ _ _)
   | (with_reducible exact xh.mono _ _)
   | (with_reducible exact LeO.refl _)
   | (with_reducible exact LeO.none _)
   | (with_reducible refine LeO.ite ?_ ?_)
   | (with_reducible refine LeO.bind ?_ (fun _ => ?_))
set_option maxHeartbeats 8000000 in
set_option maxRecDepth 100000 in
theorem qu.calls (k : Nat) (A0 : Option Addr) (c0 : Nat) (l0 : List (S26)) (r : Int) (w : World) (hG : LibHeld w) (hr0 : Kd.C k26 w A0 l0.length l0) (hc0 : l0.length ≤ c0) (h : qu.f k l0 = some r) :
  Calls Tryd.prog 19 #[.slice A0 l0.length c0] w fun e w' => e = .returned (.int .i64 r) ∧ Below w.heap.size w w' := by
 have hu26 := Tryd.underlying26
 have HG := qa.mk hG
 clear hG
 have HR0 := qa.mk hr0
 have HC0 := qa.mk hc0
 clear hr0 hc0
 have HB := qa.mk (Below.refl w.heap.size w)
 have H : (if (l0.length : Int) = 0 then (some 14) else (if (l0.length : Int) > 4 then (some 2) else (qu.l0 k l0 l0 (l0.length : Int) 0))) = some r := h
 clear h
 by_cases c2 : (l0.length : Int) = 0
 ·rw [if_pos c2] at H
  have c2b0 : ((l0.length : Int) == 0) = true := beq_iff_eq.mpr c2
  have c2b1 : ((l0.length : Int) != 0) = false := bne_eq_false_iff_eq.mpr c2
  clear c2
  obtain rfl := Option.some.inj H
  go_enter Tryd.func19, Tryd.ntmps19
  go_wp2
  go_ret
  exact ⟨by first | rfl | (simp [qq, qp] <;> rfl) | (simp [*, qq, qp] <;> rfl), by repeat (first | (with_reducible first | exact HB.out | apply qc | apply qb | apply qd) | exact HB.out)⟩
 ·rw [if_neg c2] at H
  have c2b0 : ((l0.length : Int) == 0) = false := beq_eq_false_iff_ne.mpr c2
  have c2b1 : ((l0.length : Int) != 0) = true := bne_iff_ne.mpr c2
  have c2b2 : ¬ (l0 = []) := fun h_ => c2 (by rw [h_]; rfl)
  by_cases c3 : (l0.length : Int) > 4
  ·rw [if_pos c3] at H
   have c3b0 : decide (4 < (l0.length : Int)) = true := decide_eq_true c3
   have c3b1 : decide (4 < l0.length) = true := decide_eq_true (by omega)
   clear c3
   obtain rfl := Option.some.inj H
   go_enter Tryd.func19, Tryd.ntmps19
   go_wp2
   go_ret
   exact ⟨by first | rfl | (simp [qq, qp] <;> rfl) | (simp [*, qq, qp] <;> rfl), by repeat (first | (with_reducible first | exact HB.out | apply qc | apply qb | apply qd) | exact HB.out)⟩
  ·rw [if_neg c3] at H
   have c3b0 : decide (4 < (l0.length : Int)) = false := decide_eq_false c3
   have c3b1 : decide (4 < l0.length) = false := decide_eq_false (by omega)
   clear c3
   have H' := qa.mk H
   clear H
   go_enter Tryd.func19, Tryd.ntmps19
   go_wp2
   go_loopg [15] k (fun kq v15 w' => ∃ (x15_1 : Int), v15 = .int .i64 x15_1 ∧ qa (qu.l0 kq l0 l0 (l0.length : Int) x15_1 = some r) ∧ qa (kq ≤ k) ∧ qa (Below w.heap.size w w'))
   case atStart => exact ⟨(0), (by first | rfl | (simp; done) | (simp [*]; done)), H', ⟨Nat.le_refl _⟩, ⟨by repeat (first | (with_reducible first | exact HB.out | apply qc | apply qb | apply qd) | exact HB.out)⟩⟩
   case round =>
    clear H'
    (try clear c1); (try clear c2); (try clear c2b0); (try clear c2b1); (try clear c2b2); (try clear p2); (try clear c3); (try clear c3b0); try clear c3b1
    obtain ⟨x15_1, rfl, HA, HK1, HB⟩ := hrel
    cases gk with
    | zero => exact absurd HA.out (by simp [qu.l0])
    | succ k1 =>
     have H := HA.out
     clear HA
     simp only [qu.l0] at H
     by_cases c4 : x15_1 < (l0.length : Int)
     ·rw [if_pos c4] at H
      have c4b0 : decide (x15_1 < (l0.length : Int)) = true := decide_eq_true c4
      clear c4
      by_cases c5 : 0 ≤ x15_1
      ·rw [if_pos c5] at H
       have c5b0 : decide (0 ≤ x15_1) = true := decide_eq_true c5
       clear c5
       by_cases c6 : x15_1 < (l0.length : Int)
       ·rw [if_pos c6] at H
        have c6b0 : decide (x15_1 < (l0.length : Int)) = true := decide_eq_true c6
        clear c6
        replace H := Option.bind_eq_some_iff.mp H
        obtain ⟨t158, A70, H⟩ := H
        replace H : (if t158 = true then (if ((qn l0 x15_1).f2).toList = ([] : List UInt8) then (qu.j1 k1 l0 x15_1 l0 (l0.length : Int) x15_1 true ((qn l0 x15_1).f0) ((qn l0 x15_1).f1) ((qn l0 x15_1).f2)) else ((k6.f ((qn l0 x15_1).f1) ((qn l0 x15_1).f2)).bind fun t159 => (qu.j1 k1 l0 x15_1 l0 (l0.length : Int) x15_1 (!t159) ((qn l0 x15_1).f0) ((qn l0 x15_1).f1) ((qn l0 x15_1).f2)))) else (some 11)) = some r := H
        have A7 := qa.mk A70
        clear A70
        by_cases c8 : t158 = true
        ·subst c8
         have H1 : (if ((qn l0 x15_1).f2).toList = ([] : List UInt8) then (qu.j1 k1 l0 x15_1 l0 (l0.length : Int) x15_1 true ((qn l0 x15_1).f0) ((qn l0 x15_1).f1) ((qn l0 x15_1).f2)) else ((k6.f ((qn l0 x15_1).f1) ((qn l0 x15_1).f2)).bind fun t159 => (qu.j1 k1 l0 x15_1 l0 (l0.length : Int) x15_1 (!t159) ((qn l0 x15_1).f0) ((qn l0 x15_1).f1) ((qn l0 x15_1).f2)))) = some r := by rw [if_pos rfl] at H; exact H
         clear H
         have H := H1
         clear H1
         have HC9 := qa.mk H
         clear H
         have p156 : 0 ≤ (x15_1 : Int) := of_decide_eq_true (by first | (with_reducible assumption) | assumption)
         have q156 : x15_1 < (l0.length : Int) := of_decide_eq_true (by first | (with_reducible assumption) | assumption)
         obtain ⟨ad156, e156, hx156_0, hx156_1, hx156_2⟩ := kv HR0.out x15_1 p156 q156
         cases e156
         replace hx156_0 := (HB.out.cell (World.block_lt_of_cell? w _ hx156_0)).trans hx156_0
         replace hx156_1 := (HB.out.cell (World.block_lt_of_cell? w _ hx156_1)).trans hx156_1
         replace hx156_2 := (HB.out.cell (World.block_lt_of_cell? w _ hx156_2)).trans hx156_2
         replace p156 := eq_true p156
         replace q156 := eq_true q156
         go_upto_region 10 with (first | ((with_reducible refine zd (N := 4) rfl ?_); refine zg ?hg (N := 4) ?hd (cs := #[.string (⟨#[]⟩ : ByteArray), .int .i64 0, .string (⟨#[]⟩ : ByteArray)]) (t := 26) ?hr ?_; (case hd => rfl); (case hg => rfl); (case hr => first | (go_simp; done) | (go_simp; rfl)); intro gb157 hg w10 hbox hb; have n0_ := qa.mk (qj (by repeat (first | (with_reducible first | exact HB.out | apply qc | apply qb | apply qd) | exact HB.out)) hb); have n1_ := qa.mk (hbox); have n2_ := qa.mk ((by rw [hg]; exact (qm (by repeat (first | (with_reducible first | exact HB.out | apply qc | apply qb | apply qd) | exact HB.out))) : w.heap.size ≤ gb157)); have n3_ := qa.mk ((by rw [hg]; exact (qm (by repeat (first | (with_reducible first | exact HB.out | apply qc | apply qb | apply qd) | exact HB.out))) : w.heap.size ≤ gb157)); clear HB; have HB := n0_; have BK157 := n1_; have GW157 := n2_; have GE157 := n3_; clear n0_ n1_ n2_ n3_; clear hb hbox hg; have hcz11_0 : w10.cell? ⟨gb157, 0, none⟩ = some (.string (⟨#[]⟩ : ByteArray)) := (qi BK157.out 0).trans rfl; have hcz11_1 : w10.cell? ⟨gb157, 1, none⟩ = some (.int .i64 0) := (qi BK157.out 1).trans rfl; have hcz11_2 : w10.cell? ⟨gb157, 2, none⟩ = some (.string (⟨#[]⟩ : ByteArray)) := (qi BK157.out 2).trans rfl; have hfz11_0 := qk BK157.out 0; have hfz11_1 := qk BK157.out 1; have hfz11_2 := qk BK157.out 2) | ((with_reducible refine zk (f := 26) rfl ?_); refine xv (some 22) rfl rfl Tryd.func26 (by kernel_rfl) rfl #[.string ((qn l0 x15_1).f0)] rfl (by (try simp only [List.map_toArray, List.map_cons, List.map_nil]); first | done | rfl | (simp only [List.length_drop, List.length_take]; rfl)) ?_; (with_reducible refine (xh.calls k1 ((qn l0 x15_1).f0) true _ ?side1 A7.out).mono ?_); (case side1 => exact LibHeld.below HG.out (by repeat (first | (with_reducible first | exact HB.out | apply qc | apply qb | apply qd | refine qe ?_ GE157.out) | exact HB.out))); rintro e w12 ⟨rfl, hb⟩; refine ⟨_, rfl, ?_⟩; have n0_ := qa.mk (qt (g := gb157) (o := .cells #[.string ((qn l0 x15_1).f0), .int .i64 ((qn l0 x15_1).f1), .string ((qn l0 x15_1).f2)] 26 (0, 0)) (by (with_reducible repeat (first | refine qg ?_ _ | refine qh ?_ | refine qf ?_ _)); refine zw (cs := #[.string ((qn l0 x15_1).f0), .int .i64 ((qn l0 x15_1).f1), .string (⟨#[]⟩ : ByteArray)]) ?_ 2 _ rfl; (with_reducible repeat (first | refine qg ?_ _ | refine qh ?_ | refine qf ?_ _)); refine zw (cs := #[.string ((qn l0 x15_1).f0), .int .i64 0, .string (⟨#[]⟩ : ByteArray)]) ?_ 1 _ rfl; (with_reducible repeat (first | refine qg ?_ _ | refine qh ?_ | refine qf ?_ _)); refine zw (cs := #[.string (⟨#[]⟩ : ByteArray), .int .i64 0, .string (⟨#[]⟩ : ByteArray)]) ?_ 0 _ rfl; (with_reducible repeat (first | refine qg ?_ _ | refine qh ?_ | refine qf ?_ _)); exact BK157.out) hb); have n1_ := qa.mk (qj (by repeat (first | (with_reducible first | exact HB.out | apply qc | apply qb | apply qd | refine qe ?_ GE157.out) | exact HB.out)) hb); clear BK157; clear HB; have BK157 := n0_; have HB := n1_; clear n0_ n1_; (try clear hb); (try clear hb2); (try clear hk); (try clear hi)))
         (try simp only [Act.put, List.setIfInBounds_toArray, List.set_cons_zero, List.set_cons_succ])
         go_cut [34] (fun v34 wc => ∃ (kq : Nat) (x34_8 : Bool), v34 = .bool x34_8 ∧ qa (qu.j1 kq l0 x15_1 l0 (l0.length : Int) x15_1 x34_8 ((qn l0 x15_1).f0) ((qn l0 x15_1).f1) ((qn l0 x15_1).f2) = some r) ∧ qa (kq ≤ k1) ∧ qa (wc.heap[gb157]? = some (.cells #[.string ((qn l0 x15_1).f0), .int .i64 ((qn l0 x15_1).f1), .string ((qn l0 x15_1).f2)] 26 (0, 0))) ∧ qa (Below w.heap.size w wc))
         case first =>
          have H := HC9.out
          clear HC9
          by_cases c13 : ((qn l0 x15_1).f2).toList = ([] : List UInt8)
          ·rw [if_pos c13] at H
           have c13b0 : (((qn l0 x15_1).f2).toList == ([] : List UInt8)) = true := beq_iff_eq.mpr c13
           have c13b1 : (((qn l0 x15_1).f2).toList != ([] : List UInt8)) = false := bne_eq_false_iff_eq.mpr c13
           clear c13
           (first | rw [c13b0] | (simp only [qy, qz]; rw [c13b0]) | skip)
           have H' := qa.mk H
           clear H
           have hcz14_0 : w12.cell? ⟨gb157, 0, none⟩ = some (.string ((qn l0 x15_1).f0)) := (qi BK157.out 0).trans rfl
           have hcz14_1 : w12.cell? ⟨gb157, 1, none⟩ = some (.int .i64 ((qn l0 x15_1).f1)) := (qi BK157.out 1).trans rfl
           have hcz14_2 : w12.cell? ⟨gb157, 2, none⟩ = some (.string ((qn l0 x15_1).f2)) := (qi BK157.out 2).trans rfl
           have hfz14_0 := qk BK157.out 0
           have hfz14_1 := qk BK157.out 1
           have hfz14_2 := qk BK157.out 2
           go_wp2
           go_meet
           case rel => exact ⟨_, (true), (by first | rfl | (simp; done) | (simp [*]; done)), H', ⟨by have := HK1.out; first | omega | exact Nat.le_refl _⟩, ⟨by (with_reducible repeat (first | refine qg ?_ _ | refine qh ?_ | refine qf ?_ _)); exact BK157.out⟩, ⟨by repeat (first | (with_reducible first | exact HB.out | apply qc | apply qb | apply qd | refine qe ?_ GE157.out) | exact HB.out)⟩⟩
          ·rw [if_neg c13] at H
           have c13b0 : (((qn l0 x15_1).f2).toList == ([] : List UInt8)) = false := beq_eq_false_iff_ne.mpr c13
           have c13b1 : (((qn l0 x15_1).f2).toList != ([] : List UInt8)) = true := bne_iff_ne.mpr c13
           (first | rw [c13b0] | (simp only [qy, qz]; rw [c13b0]) | skip)
           replace H := Option.bind_eq_some_iff.mp H
           obtain ⟨t159, A150, H⟩ := H
           replace H : (qu.j1 k1 l0 x15_1 l0 (l0.length : Int) x15_1 (!t159) ((qn l0 x15_1).f0) ((qn l0 x15_1).f1) ((qn l0 x15_1).f2)) = some r := H
           have A15 := qa.mk A150
           clear A150
           have H' := qa.mk H
           clear H
           have hcz16_0 : w12.cell? ⟨gb157, 0, none⟩ = some (.string ((qn l0 x15_1).f0)) := (qi BK157.out 0).trans rfl
           have hcz16_1 : w12.cell? ⟨gb157, 1, none⟩ = some (.int .i64 ((qn l0 x15_1).f1)) := (qi BK157.out 1).trans rfl
           have hcz16_2 : w12.cell? ⟨gb157, 2, none⟩ = some (.string ((qn l0 x15_1).f2)) := (qi BK157.out 2).trans rfl
           have hfz16_0 := qk BK157.out 0
           have hfz16_1 := qk BK157.out 1
           have hfz16_2 := qk BK157.out 2
           go_wp2_with (first | (go_at_call 27; (with_reducible refine (k6.calls ((qn l0 x15_1).f1) ((qn l0 x15_1).f2) t159 _ A15.out).mono ?_); rintro e w17 ⟨rfl, hb⟩; have n0_ := qa.mk (qt (g := gb157) (o := .cells #[.string ((qn l0 x15_1).f0), .int .i64 ((qn l0 x15_1).f1), .string ((qn l0 x15_1).f2)] 26 (0, 0)) (by (with_reducible repeat (first | refine qg ?_ _ | refine qh ?_ | refine qf ?_ _)); exact BK157.out) hb); have n1_ := qa.mk (qj (by repeat (first | (with_reducible first | exact HB.out | apply qc | apply qb | apply qd | refine qe ?_ GE157.out) | exact HB.out)) hb); clear BK157; clear HB; have BK157 := n0_; have HB := n1_; clear n0_ n1_; (try clear hb); (try clear hb2); (try clear hk); (try clear hi)))
           go_meet
           case rel => exact ⟨_, (!t159), (by first | rfl | (simp; done) | (simp [*]; done)), H', ⟨by have := HK1.out; first | omega | exact Nat.le_refl _⟩, ⟨by (with_reducible repeat (first | refine qg ?_ _ | refine qh ?_ | refine qf ?_ _)); exact BK157.out⟩, ⟨by repeat (first | (with_reducible first | exact HB.out | apply qc | apply qb | apply qd | refine qe ?_ GE157.out) | exact HB.out)⟩⟩
         case rest =>
          clear HC9
          (try clear c1); (try clear p1); (try clear q1); (try clear hx1); (try clear c2); (try clear c2b0); (try clear c2b1); (try clear c2b2); (try clear p2); (try clear c3); try clear c3b0
          (try clear c3b1); (try clear c4); (try clear c4b0); (try clear c5); (try clear c5b0); (try clear c6); (try clear c6b0); (try clear c8); (try clear c13); (try clear c13b0); try clear c13b1
          (try clear p15); (try clear q15); (try clear hx15); (try clear hcz11_0); (try clear hcz11_1); (try clear hcz11_2); (try clear hcz14_0); (try clear hcz14_1); (try clear hcz14_2); try clear hcz16_0
          (try clear hcz16_1); (try clear hcz16_2); (try clear hfz11_0); (try clear hfz11_1); (try clear hfz11_2); (try clear hfz14_0); (try clear hfz14_1); (try clear hfz14_2); try clear hfz16_0
          (try clear hfz16_1); (try clear hfz16_2); (try clear hx156_0); (try clear hx156_1); (try clear hx156_2); (try clear p156); (try clear p2); try clear q156
          obtain ⟨kq, x34_8, rfl, HA, HJ8, BK157, HB⟩ := hcut
          cases kq with
          | zero => exact absurd HA.out (by simp [qu.j1])
          | succ kj8 =>
           have H := HA.out
           clear HA
           simp only [qu.j1] at H
           by_cases c18 : x34_8 = true
           ·subst c18
            have H1 : (some 13) = some r := by rw [if_pos rfl] at H; exact H
            clear H
            have H := H1
            clear H1
            obtain rfl := Option.some.inj H
            go_wp2
            go_ret
            exact ⟨by first | rfl | (simp [qq, qp] <;> rfl) | (simp [*, qq, qp] <;> rfl), by repeat (first | (with_reducible first | exact HB.out | apply qc | apply qb | apply qd | refine qe ?_ GE157.out) | exact HB.out)⟩
           ·replace c18 := Bool.eq_false_iff.mpr c18
            subst c18
            have H1 : (if (((qn l0 x15_1).f2).size : Int) > 64 then (some 2) else (if 0 ≤ x15_1 then (if x15_1 ≤ (l0.length : Int) then ((some (l0.take (x15_1 : Int).toNat : List (S26))).bind fun y160 => (qu.l1 kj8 l0 l0 (l0.length : Int) x15_1 y160 (y160.length : Int) 0 ((qn l0 x15_1).f0) ((qn l0 x15_1).f1) ((qn l0 x15_1).f2))) else (none)) else (none))) = some r := by rw [if_neg (show ¬ (false = true) by decide)] at H; exact H
            clear H
            have H := H1
            clear H1
            by_cases c19 : (((qn l0 x15_1).f2).size : Int) > 64
            ·rw [if_pos c19] at H
             have c19b0 : decide (64 < (((qn l0 x15_1).f2).size : Int)) = true := decide_eq_true c19
             have c19b1 : decide (64 < ((qn l0 x15_1).f2).size) = true := decide_eq_true (by omega)
             clear c19
             obtain rfl := Option.some.inj H
             have hcz20_0 : wc.cell? ⟨gb157, 0, none⟩ = some (.string ((qn l0 x15_1).f0)) := (qi BK157.out 0).trans rfl
             have hcz20_1 : wc.cell? ⟨gb157, 1, none⟩ = some (.int .i64 ((qn l0 x15_1).f1)) := (qi BK157.out 1).trans rfl
             have hcz20_2 : wc.cell? ⟨gb157, 2, none⟩ = some (.string ((qn l0 x15_1).f2)) := (qi BK157.out 2).trans rfl
             have hfz20_0 := qk BK157.out 0
             have hfz20_1 := qk BK157.out 1
             have hfz20_2 := qk BK157.out 2
             go_wp2
             go_ret
             exact ⟨by first | rfl | (simp [qq, qp] <;> rfl) | (simp [*, qq, qp] <;> rfl), by repeat (first | (with_reducible first | exact HB.out | apply qc | apply qb | apply qd | refine qe ?_ GE157.out) | exact HB.out)⟩
            ·rw [if_neg c19] at H
             have c19b0 : decide (64 < (((qn l0 x15_1).f2).size : Int)) = false := decide_eq_false c19
             have c19b1 : decide (64 < ((qn l0 x15_1).f2).size) = false := decide_eq_false (by omega)
             clear c19
             by_cases c21 : 0 ≤ x15_1
             ·rw [if_pos c21] at H
              have c21b0 := eq_true c21
              have c21b1 : decide (0 ≤ x15_1) = true := decide_eq_true c21
              clear c21
              by_cases c22 : x15_1 ≤ (l0.length : Int)
              ·rw [if_pos c22] at H
               have c22b0 := eq_true c22
               have c22b1 : decide (x15_1 ≤ (l0.length : Int)) = true := decide_eq_true c22
               clear c22
               obtain ⟨y160, hy160⟩ : ∃ y_ : List (S26), y_ = (l0.take (x15_1 : Int).toNat) := ⟨_, rfl⟩
               replace H : (qu.l1 kj8 l0 l0 (l0.length : Int) x15_1 y160 (y160.length : Int) 0 ((qn l0 x15_1).f0) ((qn l0 x15_1).f1) ((qn l0 x15_1).f2)) = some r := by first | (rw [hy160]; with_reducible exact H) | (have H2_ := (Option.bind_some _ _).symm.trans H; rw [hy160]; with_reducible exact H2_) | (have H2_ := (Option.bind_some _ _).symm.trans H; with_reducible exact H2_) | with_reducible exact H | (rw [hy160]; exact H) | exact H
               have Ny160 := qa.mk hy160
               clear hy160
               have H' := qa.mk H
               clear H
               have hcz23_0 : wc.cell? ⟨gb157, 0, none⟩ = some (.string ((qn l0 x15_1).f0)) := (qi BK157.out 0).trans rfl
               have hcz23_1 : wc.cell? ⟨gb157, 1, none⟩ = some (.int .i64 ((qn l0 x15_1).f1)) := (qi BK157.out 1).trans rfl
               have hcz23_2 : wc.cell? ⟨gb157, 2, none⟩ = some (.string ((qn l0 x15_1).f2)) := (qi BK157.out 2).trans rfl
               have hfz23_0 := qk BK157.out 0
               have hfz23_1 := qk BK157.out 1
               have hfz23_2 := qk BK157.out 2
               have q24 : (x15_1 : Int) ≤ ((l0.length : Int) : Int) := of_decide_eq_true (by first | (with_reducible assumption) | assumption)
               obtain ⟨i024, hi024, _, hsz24, _⟩ := info_parts info26
               have hroom24 : l0.length ≤ c0 := HC0.out
               have hC24 : Kd.C k26 _ (some ad156) l0.length l0 := HR0.out
               have hcut24 := cut_to (P := Tryd.prog) 27 26 .i64 Tryd.underlying27 hi024 (some ad156) l0.length c0 x15_1 (of_decide_eq_true (by first | (with_reducible assumption) | assumption)) q24 hroom24
               have hr24 := Kd.C_take (m := (x15_1 : Int).toNat) hC24 (by omega)
               have hy24 : y160.length = (x15_1 : Int).toNat := (by rw [Ny160.out, List.length_take]; omega)
               rw [← Ny160.out] at hr24
               rw [← hy24] at hcut24
               have HR163 := qa.mk hr24
               have HC163 := qa.mk (show y160.length ≤ c0 from by omega)
               clear hr24 hC24 hroom24 hi024 hsz24
               have KY24 := qa.mk hy24
               clear hy24
               replace q24 := eq_true q24
               go_wp2
               go_loopg [43] kj8 (fun kq v43 w' => ∃ (x43_3 : Int), v43 = .int .i64 x43_3 ∧ qa (qu.l1 kq l0 l0 (l0.length : Int) x15_1 y160 (y160.length : Int) x43_3 ((qn l0 x15_1).f0) ((qn l0 x15_1).f1) ((qn l0 x15_1).f2) = some r) ∧ qa (kq ≤ kj8) ∧ qa (w'.heap[gb157]? = some (.cells #[.string ((qn l0 x15_1).f0), .int .i64 ((qn l0 x15_1).f1), .string ((qn l0 x15_1).f2)] 26 (0, 0))) ∧ qa (Below w.heap.size w w'))
               case atStart => exact ⟨(0), (by first | rfl | (simp; done) | (simp [*]; done)), H', ⟨Nat.le_refl _⟩, ⟨by (with_reducible repeat (first | refine qg ?_ _ | refine qh ?_ | refine qf ?_ _)); exact BK157.out⟩, ⟨by repeat (first | (with_reducible first | exact HB.out | apply qc | apply qb | apply qd | refine qe ?_ GE157.out) | exact HB.out)⟩⟩
               case round =>
                clear H'
                (try clear c1); (try clear p1); (try clear q1); (try clear hx1); (try clear c2); (try clear c2b0); (try clear c2b1); (try clear c2b2); (try clear p2); (try clear q2); try clear c3
                (try clear c3b0); (try clear c3b1); (try clear c4); (try clear c4b0); (try clear c5); (try clear c5b0); (try clear c6); (try clear c6b0); (try clear c8); (try clear c13); try clear c13b0
                (try clear c13b1); (try clear p15); (try clear q15); (try clear hx15); (try clear c18); (try clear c19); (try clear c19b0); (try clear c19b1); (try clear c21); try clear c21b0
                (try clear c21b1); (try clear c22); (try clear c22b0); (try clear c22b1); (try clear q24); (try clear hcz11_0); (try clear hcz11_1); (try clear hcz11_2); try clear hcz14_0
                (try clear hcz14_1); (try clear hcz14_2); (try clear hcz16_0); (try clear hcz16_1); (try clear hcz16_2); (try clear hcz20_0); (try clear hcz20_1); (try clear hcz20_2); try clear hcz23_0
                (try clear hcz23_1); (try clear hcz23_2); (try clear hfz11_0); (try clear hfz11_1); (try clear hfz11_2); (try clear hfz14_0); (try clear hfz14_1); (try clear hfz14_2); try clear hfz16_0
                (try clear hfz16_1); (try clear hfz16_2); (try clear hfz20_0); (try clear hfz20_1); (try clear hfz20_2); (try clear hfz23_0); (try clear hfz23_1); (try clear hfz23_2); try clear hx156_0
                (try clear hx156_1); (try clear hx156_2); (try clear p1); (try clear p15); (try clear p156); (try clear p2); (try clear q1); (try clear q15); (try clear q156); try clear q24
                obtain ⟨x43_3, rfl, HA, HK3, BK157, HB⟩ := hrel
                cases gk with
                | zero => exact absurd HA.out (by simp [qu.l1])
                | succ k3 =>
                 have H := HA.out
                 clear HA
                 simp only [qu.l1] at H
                 by_cases c25 : x43_3 < (y160.length : Int)
                 ·rw [if_pos c25] at H
                  have c25b0 : decide (x43_3 < (y160.length : Int)) = true := decide_eq_true c25
                  clear c25
                  by_cases c26 : 0 ≤ x43_3
                  ·rw [if_pos c26] at H
                   have c26b0 : decide (0 ≤ x43_3) = true := decide_eq_true c26
                   clear c26
                   by_cases c27 : x43_3 < (y160.length : Int)
                   ·rw [if_pos c27] at H
                    have c27b0 : decide (x43_3 < (y160.length : Int)) = true := decide_eq_true c27
                    clear c27
                    by_cases c28 : ((qn y160 x43_3).f0).toList = ((qn l0 x15_1).f0).toList
                    ·rw [if_pos c28] at H
                     have c28b0 : (((qn y160 x43_3).f0).toList == ((qn l0 x15_1).f0).toList) = true := beq_iff_eq.mpr c28
                     have c28b1 : (((qn y160 x43_3).f0).toList != ((qn l0 x15_1).f0).toList) = false := bne_eq_false_iff_eq.mpr c28
                     clear c28
                     obtain rfl := Option.some.inj H
                     have p164 : 0 ≤ (x43_3 : Int) := of_decide_eq_true (by first | (with_reducible assumption) | assumption)
                     have q164 : x43_3 < (y160.length : Int) := of_decide_eq_true (by first | (with_reducible assumption) | assumption)
                     obtain ⟨ad164, e164, hx164_0, hx164_1, hx164_2⟩ := kv HR163.out x43_3 p164 q164
                     obtain rfl : ad156 = ad164 := (by injection e164)
                     replace hx164_0 := (HB.out.cell (World.block_lt_of_cell? w _ hx164_0)).trans hx164_0
                     replace hx164_1 := (HB.out.cell (World.block_lt_of_cell? w _ hx164_1)).trans hx164_1
                     replace hx164_2 := (HB.out.cell (World.block_lt_of_cell? w _ hx164_2)).trans hx164_2
                     replace p164 := eq_true p164
                     replace q164 := eq_true q164
                     go_wp2_with (first | ((with_reducible refine zd (N := 6) rfl ?_); refine zg ?hg (N := 6) ?hd (cs := #[.string (⟨#[]⟩ : ByteArray), .int .i64 0, .string (⟨#[]⟩ : ByteArray)]) (t := 26) ?hr ?_; (case hd => rfl); (case hg => rfl); (case hr => first | (go_simp; done) | (go_simp; rfl)); intro gb165 hg w29 hbox hb; have n0_ := qa.mk (qt (g := gb157) (o := .cells #[.string ((qn l0 x15_1).f0), .int .i64 ((qn l0 x15_1).f1), .string ((qn l0 x15_1).f2)] 26 (0, 0)) (by (with_reducible repeat (first | refine qg ?_ _ | refine qh ?_ | refine qf ?_ _)); exact BK157.out) hb); have n1_ := qa.mk (qj (by repeat (first | (with_reducible first | exact HB.out | apply qc | apply qb | apply qd | refine qe ?_ GE157.out) | exact HB.out)) hb); have n2_ := qa.mk (hbox); have n3_ := qa.mk ((by rw [hg]; exact (qm (by repeat (first | (with_reducible first | exact HB.out | apply qc | apply qb | apply qd | refine qe ?_ GE157.out) | exact HB.out))) : w.heap.size ≤ gb165)); have n4_ := qa.mk ((by rw [hg]; exact (qm (by repeat (first | (with_reducible first | exact HB.out | apply qc | apply qb | apply qd | refine qe ?_ GE157.out) | exact HB.out))) : w.heap.size ≤ gb165)); have n5_ := qa.mk ((by rw [hg]; exact Nat.ne_of_lt (zl (g := gb157) (o := .cells #[.string ((qn l0 x15_1).f0), .int .i64 ((qn l0 x15_1).f1), .string ((qn l0 x15_1).f2)] 26 (0, 0)) (by (with_reducible repeat (first | refine qg ?_ _ | refine qh ?_ | refine qf ?_ _)); exact BK157.out)) : gb157 ≠ gb165)); have n6_ := qa.mk ((by rw [hg]; exact Nat.ne_of_gt (zl (g := gb157) (o := .cells #[.string ((qn l0 x15_1).f0), .int .i64 ((qn l0 x15_1).f1), .string ((qn l0 x15_1).f2)] 26 (0, 0)) (by (with_reducible repeat (first | refine qg ?_ _ | refine qh ?_ | refine qf ?_ _)); exact BK157.out)) : gb165 ≠ gb157)); clear BK157; clear HB; have BK157 := n0_; have HB := n1_; have BK165 := n2_; have GW165 := n3_; have GE165 := n4_; have NB157_165 := n5_; have NB165_157 := n6_; clear n0_ n1_ n2_ n3_ n4_ n5_ n6_; clear hb hbox hg; have hnb30 := NB165_157.out; have hnc30 := NB157_165.out; have hcz31_0 : w29.cell? ⟨gb165, 0, none⟩ = some (.string (⟨#[]⟩ : ByteArray)) := (qi BK165.out 0).trans rfl; have hcz31_1 : w29.cell? ⟨gb165, 1, none⟩ = some (.int .i64 0) := (qi BK165.out 1).trans rfl; have hcz31_2 : w29.cell? ⟨gb165, 2, none⟩ = some (.string (⟨#[]⟩ : ByteArray)) := (qi BK165.out 2).trans rfl; have hfz31_0 := qk BK165.out 0; have hfz31_1 := qk BK165.out 1; have hfz31_2 := qk BK165.out 2; have hcz32_0 : w29.cell? ⟨gb157, 0, none⟩ = some (.string ((qn l0 x15_1).f0)) := (qi BK157.out 0).trans rfl; have hcz32_1 : w29.cell? ⟨gb157, 1, none⟩ = some (.int .i64 ((qn l0 x15_1).f1)) := (qi BK157.out 1).trans rfl; have hcz32_2 : w29.cell? ⟨gb157, 2, none⟩ = some (.string ((qn l0 x15_1).f2)) := (qi BK157.out 2).trans rfl; have hfz32_0 := qk BK157.out 0; have hfz32_1 := qk BK157.out 1; have hfz32_2 := qk BK157.out 2))
                     go_ret
                     exact ⟨by first | rfl | (simp [qq, qp] <;> rfl) | (simp [*, qq, qp] <;> rfl), by repeat (first | (with_reducible first | exact HB.out | apply qc | apply qb | apply qd | refine qe ?_ GE157.out | refine qe ?_ GE165.out) | exact HB.out)⟩
                    ·rw [if_neg c28] at H
                     have c28b0 : (((qn y160 x43_3).f0).toList == ((qn l0 x15_1).f0).toList) = false := beq_eq_false_iff_ne.mpr c28
                     have c28b1 : (((qn y160 x43_3).f0).toList != ((qn l0 x15_1).f0).toList) = true := bne_iff_ne.mpr c28
                     have H' := qa.mk H
                     clear H
                     have p164 : 0 ≤ (x43_3 : Int) := of_decide_eq_true (by first | (with_reducible assumption) | assumption)
                     have q164 : x43_3 < (y160.length : Int) := of_decide_eq_true (by first | (with_reducible assumption) | assumption)
                     obtain ⟨ad164, e164, hx164_0, hx164_1, hx164_2⟩ := kv HR163.out x43_3 p164 q164
                     obtain rfl : ad156 = ad164 := (by injection e164)
                     replace hx164_0 := (HB.out.cell (World.block_lt_of_cell? w _ hx164_0)).trans hx164_0
                     replace hx164_1 := (HB.out.cell (World.block_lt_of_cell? w _ hx164_1)).trans hx164_1
                     replace hx164_2 := (HB.out.cell (World.block_lt_of_cell? w _ hx164_2)).trans hx164_2
                     replace p164 := eq_true p164
                     replace q164 := eq_true q164
                     go_wp2_with (first | ((with_reducible refine zd (N := 6) rfl ?_); refine zg ?hg (N := 6) ?hd (cs := #[.string (⟨#[]⟩ : ByteArray), .int .i64 0, .string (⟨#[]⟩ : ByteArray)]) (t := 26) ?hr ?_; (case hd => rfl); (case hg => rfl); (case hr => first | (go_simp; done) | (go_simp; rfl)); intro gb165 hg w33 hbox hb; have n0_ := qa.mk (qt (g := gb157) (o := .cells #[.string ((qn l0 x15_1).f0), .int .i64 ((qn l0 x15_1).f1), .string ((qn l0 x15_1).f2)] 26 (0, 0)) (by (with_reducible repeat (first | refine qg ?_ _ | refine qh ?_ | refine qf ?_ _)); exact BK157.out) hb); have n1_ := qa.mk (qj (by repeat (first | (with_reducible first | exact HB.out | apply qc | apply qb | apply qd | refine qe ?_ GE157.out) | exact HB.out)) hb); have n2_ := qa.mk (hbox); have n3_ := qa.mk ((by rw [hg]; exact (qm (by repeat (first | (with_reducible first | exact HB.out | apply qc | apply qb | apply qd | refine qe ?_ GE157.out) | exact HB.out))) : w.heap.size ≤ gb165)); have n4_ := qa.mk ((by rw [hg]; exact (qm (by repeat (first | (with_reducible first | exact HB.out | apply qc | apply qb | apply qd | refine qe ?_ GE157.out) | exact HB.out))) : w.heap.size ≤ gb165)); have n5_ := qa.mk ((by rw [hg]; exact Nat.ne_of_lt (zl (g := gb157) (o := .cells #[.string ((qn l0 x15_1).f0), .int .i64 ((qn l0 x15_1).f1), .string ((qn l0 x15_1).f2)] 26 (0, 0)) (by (with_reducible repeat (first | refine qg ?_ _ | refine qh ?_ | refine qf ?_ _)); exact BK157.out)) : gb157 ≠ gb165)); have n6_ := qa.mk ((by rw [hg]; exact Nat.ne_of_gt (zl (g := gb157) (o := .cells #[.string ((qn l0 x15_1).f0), .int .i64 ((qn l0 x15_1).f1), .string ((qn l0 x15_1).f2)] 26 (0, 0)) (by (with_reducible repeat (first | refine qg ?_ _ | refine qh ?_ | refine qf ?_ _)); exact BK157.out)) : gb165 ≠ gb157)); clear BK157; clear HB; have BK157 := n0_; have HB := n1_; have BK165 := n2_; have GW165 := n3_; have GE165 := n4_; have NB157_165 := n5_; have NB165_157 := n6_; clear n0_ n1_ n2_ n3_ n4_ n5_ n6_; clear hb hbox hg; have hnb34 := NB165_157.out; have hnc34 := NB157_165.out; have hcz35_0 : w33.cell? ⟨gb165, 0, none⟩ = some (.string (⟨#[]⟩ : ByteArray)) := (qi BK165.out 0).trans rfl; have hcz35_1 : w33.cell? ⟨gb165, 1, none⟩ = some (.int .i64 0) := (qi BK165.out 1).trans rfl; have hcz35_2 : w33.cell? ⟨gb165, 2, none⟩ = some (.string (⟨#[]⟩ : ByteArray)) := (qi BK165.out 2).trans rfl; have hfz35_0 := qk BK165.out 0; have hfz35_1 := qk BK165.out 1; have hfz35_2 := qk BK165.out 2; have hcz36_0 : w33.cell? ⟨gb157, 0, none⟩ = some (.string ((qn l0 x15_1).f0)) := (qi BK157.out 0).trans rfl; have hcz36_1 : w33.cell? ⟨gb157, 1, none⟩ = some (.int .i64 ((qn l0 x15_1).f1)) := (qi BK157.out 1).trans rfl; have hcz36_2 : w33.cell? ⟨gb157, 2, none⟩ = some (.string ((qn l0 x15_1).f2)) := (qi BK157.out 2).trans rfl; have hfz36_0 := qk BK157.out 0; have hfz36_1 := qk BK157.out 1; have hfz36_2 := qk BK157.out 2))
                     go_roundg k3
                     case measure => have := HK1.out; have := HJ8.out; have := HK3.out; omega
                     case rel => exact ⟨(wrap64 (x43_3 + 1)), (by first | rfl | (simp; done) | (simp [*]; done)), H', ⟨by have := HK1.out; have := HJ8.out; have := HK3.out; omega⟩, ⟨by (with_reducible repeat (first | refine qg ?_ _ | refine qh ?_ | refine qf ?_ _)); refine xd ?_ NB157_165.out _; (with_reducible repeat (first | refine qg ?_ _ | refine qh ?_ | refine qf ?_ _)); refine xd ?_ NB157_165.out _; (with_reducible repeat (first | refine qg ?_ _ | refine qh ?_ | refine qf ?_ _)); refine xd ?_ NB157_165.out _; (with_reducible repeat (first | refine qg ?_ _ | refine qh ?_ | refine qf ?_ _)); exact BK157.out⟩, ⟨by repeat (first | (with_reducible first | exact HB.out | apply qc | apply qb | apply qd | refine qe ?_ GE157.out | refine qe ?_ GE165.out) | exact HB.out)⟩⟩
                   ·rw [if_neg c27] at H
                    exact absurd H (by simp)
                  ·rw [if_neg c26] at H
                   exact absurd H (by simp)
                 ·rw [if_neg c25] at H
                  have c25b0 : decide (x43_3 < (y160.length : Int)) = false := decide_eq_false c25
                  clear c25
                  have H' := qa.mk H
                  clear H
                  go_wp2
                  go_roundg k3
                  case measure => have := HK1.out; have := HJ8.out; have := HK3.out; omega
                  case rel => exact ⟨(wrap64 (x15_1 + 1)), (by first | rfl | (simp; done) | (simp [*]; done)), H', ⟨by have := HK1.out; have := HJ8.out; have := HK3.out; omega⟩, ⟨by repeat (first | (with_reducible first | exact HB.out | apply qc | apply qb | apply qd | refine qe ?_ GE157.out) | exact HB.out)⟩⟩
              ·rw [if_neg c22] at H
               exact absurd H (by simp)
             ·rw [if_neg c21] at H
              exact absurd H (by simp)
        ·replace c8 := Bool.eq_false_iff.mpr c8
         subst c8
         have H1 : (some 11) = some r := by rw [if_neg (show ¬ (false = true) by decide)] at H; exact H
         clear H
         have H := H1
         clear H1
         obtain rfl := Option.some.inj H
         have p156 : 0 ≤ (x15_1 : Int) := of_decide_eq_true (by first | (with_reducible assumption) | assumption)
         have q156 : x15_1 < (l0.length : Int) := of_decide_eq_true (by first | (with_reducible assumption) | assumption)
         obtain ⟨ad156, e156, hx156_0, hx156_1, hx156_2⟩ := kv HR0.out x15_1 p156 q156
         cases e156
         replace hx156_0 := (HB.out.cell (World.block_lt_of_cell? w _ hx156_0)).trans hx156_0
         replace hx156_1 := (HB.out.cell (World.block_lt_of_cell? w _ hx156_1)).trans hx156_1
         replace hx156_2 := (HB.out.cell (World.block_lt_of_cell? w _ hx156_2)).trans hx156_2
         replace p156 := eq_true p156
         replace q156 := eq_true q156
         go_wp2_with (first | ((with_reducible refine zd (N := 4) rfl ?_); refine zg ?hg (N := 4) ?hd (cs := #[.string (⟨#[]⟩ : ByteArray), .int .i64 0, .string (⟨#[]⟩ : ByteArray)]) (t := 26) ?hr ?_; (case hd => rfl); (case hg => rfl); (case hr => first | (go_simp; done) | (go_simp; rfl)); intro gb157 hg w37 hbox hb; have n0_ := qa.mk (qj (by repeat (first | (with_reducible first | exact HB.out | apply qc | apply qb | apply qd) | exact HB.out)) hb); have n1_ := qa.mk (hbox); have n2_ := qa.mk ((by rw [hg]; exact (qm (by repeat (first | (with_reducible first | exact HB.out | apply qc | apply qb | apply qd) | exact HB.out))) : w.heap.size ≤ gb157)); have n3_ := qa.mk ((by rw [hg]; exact (qm (by repeat (first | (with_reducible first | exact HB.out | apply qc | apply qb | apply qd) | exact HB.out))) : w.heap.size ≤ gb157)); clear HB; have HB := n0_; have BK157 := n1_; have GW157 := n2_; have GE157 := n3_; clear n0_ n1_ n2_ n3_; clear hb hbox hg; have hcz38_0 : w37.cell? ⟨gb157, 0, none⟩ = some (.string (⟨#[]⟩ : ByteArray)) := (qi BK157.out 0).trans rfl; have hcz38_1 : w37.cell? ⟨gb157, 1, none⟩ = some (.int .i64 0) := (qi BK157.out 1).trans rfl; have hcz38_2 : w37.cell? ⟨gb157, 2, none⟩ = some (.string (⟨#[]⟩ : ByteArray)) := (qi BK157.out 2).trans rfl; have hfz38_0 := qk BK157.out 0; have hfz38_1 := qk BK157.out 1; have hfz38_2 := qk BK157.out 2) | ((with_reducible refine zk (f := 26) rfl ?_); refine xv (some 22) rfl rfl Tryd.func26 (by kernel_rfl) rfl #[.string ((qn l0 x15_1).f0)] rfl (by (try simp only [List.map_toArray, List.map_cons, List.map_nil]); first | done | rfl | (simp only [List.length_drop, List.length_take]; rfl)) ?_; (with_reducible refine (xh.calls k1 ((qn l0 x15_1).f0) false _ ?side1 A7.out).mono ?_); (case side1 => exact LibHeld.below HG.out (by repeat (first | (with_reducible first | exact HB.out | apply qc | apply qb | apply qd | refine qe ?_ GE157.out) | exact HB.out))); rintro e w39 ⟨rfl, hb⟩; refine ⟨_, rfl, ?_⟩; have n0_ := qa.mk (qt (g := gb157) (o := .cells #[.string ((qn l0 x15_1).f0), .int .i64 ((qn l0 x15_1).f1), .string ((qn l0 x15_1).f2)] 26 (0, 0)) (by (with_reducible repeat (first | refine qg ?_ _ | refine qh ?_ | refine qf ?_ _)); refine zw (cs := #[.string ((qn l0 x15_1).f0), .int .i64 ((qn l0 x15_1).f1), .string (⟨#[]⟩ : ByteArray)]) ?_ 2 _ rfl; (with_reducible repeat (first | refine qg ?_ _ | refine qh ?_ | refine qf ?_ _)); refine zw (cs := #[.string ((qn l0 x15_1).f0), .int .i64 0, .string (⟨#[]⟩ : ByteArray)]) ?_ 1 _ rfl; (with_reducible repeat (first | refine qg ?_ _ | refine qh ?_ | refine qf ?_ _)); refine zw (cs := #[.string (⟨#[]⟩ : ByteArray), .int .i64 0, .string (⟨#[]⟩ : ByteArray)]) ?_ 0 _ rfl; (with_reducible repeat (first | refine qg ?_ _ | refine qh ?_ | refine qf ?_ _)); exact BK157.out) hb); have n1_ := qa.mk (qj (by repeat (first | (with_reducible first | exact HB.out | apply qc | apply qb | apply qd | refine qe ?_ GE157.out) | exact HB.out)) hb); clear BK157; clear HB; have BK157 := n0_; have HB := n1_; clear n0_ n1_; (try clear hb); (try clear hb2); (try clear hk); (try clear hi)))
         go_ret
         exact ⟨by first | rfl | (simp [qq, qp] <;> rfl) | (simp [*, qq, qp] <;> rfl), by repeat (first | (with_reducible first | exact HB.out | apply qc | apply qb | apply qd | refine qe ?_ GE157.out) | exact HB.out)⟩
       ·rw [if_neg c6] at H
        exact absurd H (by simp)
      ·rw [if_neg c5] at H
       exact absurd H (by simp)
     ·rw [if_neg c4] at H
      have c4b0 : decide (x15_1 < (l0.length : Int)) = false := decide_eq_false c4
      clear c4
      obtain rfl := Option.some.inj H
      go_wp2
      go_ret
      exact ⟨by first | rfl | (simp [qq, qp] <;> rfl) | (simp [*, qq, qp] <;> rfl), by repeat (first | (with_reducible first | exact HB.out | apply qc | apply qb | apply qd) | exact HB.out)⟩
end Go.Proofs.YtjhlinifnjoefaaDoor.C
end
section
namespace Go.Proofs.YtjhlinifnjoefaaDoor.C
open Go.RowKit Go.Proofs.YtjhlinifnjoefaaDoorW.PrintWords Go.Proofs.YtjhlinifnjoefaaDoorW.PrintLast Go.Proofs.YtjhlinifnjoefaaDoorW.PrintMore
attribute [local go_sem] xr xp xw xx xf xe xq xo
set_option linter.unusedVariables false
set_option linter.unusedSimpArgs false
def zz.l0 : Nat → List (List (S26)) → Int → Int → Option (Int)
 | 0, _, _, _ => none
 | k + 1, x11, x12, x13 => if x13 < x12 then (if 0 ≤ x13 then (if x13 < (x11.length : Int) then ((qu.f k (xi x11 x13)).bind fun t168 => (if t168 = 0 then (zz.l0 k x11 x12 (wrap64 (x13 + 1))) else (some t168))) else (none)) else (none)) else (some 0)
def zz.f (k : Nat) (l0_0 : List (List (S26))) : Option (Int) := if (l0_0.length : Int) > 8 then (some 2) else (zz.l0 k l0_0 (l0_0.length : Int) 0)
theorem zz.xu : ∀ k, (∀ y0 y1 y2, LeO (zz.l0 k y0 y1 y2) (zz.l0 (k + 1) y0 y1 y2))
 | 0 => fun _ _ _ r h => by simp [zz.l0] at h
 | k + 1 => by
  have ih0 := zz.xu k
  ·intro y0 y1 y2
   unfold zz.l0
   repeat' first
   | (with_reducible exact ih0 _ _ _)
   | (with_reducible exact qu.mono _ _)
   | (with_reducible exact LeO.refl _)
   | (with_reducible exact LeO.none _)
   | (with_reducible refine LeO.ite ?_ ?_)
   | (with_reducible refine LeO.bind ?_ (fun _ => ?_))
theorem zz.mono : ∀ a0 k, LeO (zz.f k a0) (zz.f (k + 1) a0) := by
 intro a0 k
 have ih0 := zz.xu k
 unfold zz.f
 repeat' first
   | (with_reducible exact ih0 _ _ _)
   | (with_reducible exact qu.mono _ _)
   | (with_reducible exact LeO.refl _)
   | (with_reducible exact LeO.none _)
   | (with_reducible refine LeO.ite ?_ ?_)
   | (with_reducible refine LeO.bind ?_ (fun _ => ?_))
set_option maxHeartbeats 8000000 in
set_option maxRecDepth 100000 in
theorem zz.calls (k : Nat) (A0_0 : Option Addr) (c0_0 : Nat) (l0_0 : List (List (S26))) (r : Int) (w : World) (hG : LibHeld w) (hr0_0 : Kd.C (Kd.slice 26 k26) w A0_0 l0_0.length l0_0) (hc0_0 : l0_0.length ≤ c0_0) (h : zz.f k l0_0 = some r) :
  Calls Tryd.prog 7 #[.agg #[.slice A0_0 l0_0.length c0_0]] w fun e w' => e = .returned (.int .i64 r) ∧ Below w.heap.size w w' := by
 have hu24 := Tryd.underlying24
 have HG := qa.mk hG
 clear hG
 have HR0_0 := qa.mk hr0_0
 have HC0_0 := qa.mk hc0_0
 clear hr0_0 hc0_0
 have HB := qa.mk (Below.refl w.heap.size w)
 have H : (if (l0_0.length : Int) > 8 then (some 2) else (zz.l0 k l0_0 (l0_0.length : Int) 0)) = some r := h
 clear h
 by_cases c2 : (l0_0.length : Int) > 8
 ·rw [if_pos c2] at H
  have c2b0 : decide (8 < (l0_0.length : Int)) = true := decide_eq_true c2
  have c2b1 : decide (8 < l0_0.length) = true := decide_eq_true (by omega)
  clear c2
  obtain rfl := Option.some.inj H
  go_enter Tryd.func7, Tryd.ntmps7
  go_wp2_with (first | ((with_reducible refine zd (N := 1) rfl ?_); refine zg ?hg (N := 1) ?hd (cs := #[.slice A0_0 l0_0.length c0_0]) (t := 24) ?hr ?_; (case hd => rfl); (case hg => rfl); (case hr => first | (go_simp; done) | (go_simp; rfl)); intro gb166 hg w3 hbox hb; have n0_ := qa.mk (qj (by repeat (first | (with_reducible first | exact HB.out | apply qc | apply qb | apply qd) | exact HB.out)) hb); have n1_ := qa.mk (hbox); have n2_ := qa.mk ((by rw [hg]; exact (qm (by repeat (first | (with_reducible first | exact HB.out | apply qc | apply qb | apply qd) | exact HB.out))) : w.heap.size ≤ gb166)); have n3_ := qa.mk ((by rw [hg]; exact (qm (by repeat (first | (with_reducible first | exact HB.out | apply qc | apply qb | apply qd) | exact HB.out))) : w.heap.size ≤ gb166)); clear HB; have HB := n0_; have BK166 := n1_; have GW166 := n2_; have GE166 := n3_; clear n0_ n1_ n2_ n3_; clear hb hbox hg; have hcz4_0 : w3.cell? ⟨gb166, 0, none⟩ = some (.slice A0_0 l0_0.length c0_0) := (qi BK166.out 0).trans rfl; have hfz4_0 := qk BK166.out 0))
  go_ret
  exact ⟨by first | rfl | (simp [qq, qp] <;> rfl) | (simp [*, qq, qp] <;> rfl), by repeat (first | (with_reducible first | exact HB.out | apply qc | apply qb | apply qd | refine qe ?_ GE166.out) | exact HB.out)⟩
 ·rw [if_neg c2] at H
  have c2b0 : decide (8 < (l0_0.length : Int)) = false := decide_eq_false c2
  have c2b1 : decide (8 < l0_0.length) = false := decide_eq_false (by omega)
  clear c2
  have H' := qa.mk H
  clear H
  go_enter Tryd.func7, Tryd.ntmps7
  go_wp2_with (first | ((with_reducible refine zd (N := 1) rfl ?_); refine zg ?hg (N := 1) ?hd (cs := #[.slice A0_0 l0_0.length c0_0]) (t := 24) ?hr ?_; (case hd => rfl); (case hg => rfl); (case hr => first | (go_simp; done) | (go_simp; rfl)); intro gb166 hg w5 hbox hb; have n0_ := qa.mk (qj (by repeat (first | (with_reducible first | exact HB.out | apply qc | apply qb | apply qd) | exact HB.out)) hb); have n1_ := qa.mk (hbox); have n2_ := qa.mk ((by rw [hg]; exact (qm (by repeat (first | (with_reducible first | exact HB.out | apply qc | apply qb | apply qd) | exact HB.out))) : w.heap.size ≤ gb166)); have n3_ := qa.mk ((by rw [hg]; exact (qm (by repeat (first | (with_reducible first | exact HB.out | apply qc | apply qb | apply qd) | exact HB.out))) : w.heap.size ≤ gb166)); clear HB; have HB := n0_; have BK166 := n1_; have GW166 := n2_; have GE166 := n3_; clear n0_ n1_ n2_ n3_; clear hb hbox hg; have hcz6_0 : w5.cell? ⟨gb166, 0, none⟩ = some (.slice A0_0 l0_0.length c0_0) := (qi BK166.out 0).trans rfl; have hfz6_0 := qk BK166.out 0))
  go_loopg [13] k (fun kq v13 w' => ∃ (x13_1 : Int), v13 = .int .i64 x13_1 ∧ qa (zz.l0 kq l0_0 (l0_0.length : Int) x13_1 = some r) ∧ qa (kq ≤ k) ∧ qa (w'.heap[gb166]? = some (.cells #[(.slice A0_0 l0_0.length c0_0)] 24 (0, 0))) ∧ qa (Below w.heap.size w w'))
  case atStart => exact ⟨(0), (by first | rfl | (simp; done) | (simp [*]; done)), H', ⟨Nat.le_refl _⟩, ⟨by (with_reducible repeat (first | refine qg ?_ _ | refine qh ?_ | refine qf ?_ _)); exact BK166.out⟩, ⟨by repeat (first | (with_reducible first | exact HB.out | apply qc | apply qb | apply qd | refine qe ?_ GE166.out) | exact HB.out)⟩⟩
  case round =>
   clear H'
   (try clear c2); (try clear c2b0); (try clear c2b1); (try clear p2); (try clear hcz4_0); (try clear hcz6_0); (try clear hfz4_0); try clear hfz6_0
   obtain ⟨x13_1, rfl, HA, HK1, BK166, HB⟩ := hrel
   cases gk with
   | zero => exact absurd HA.out (by simp [zz.l0])
   | succ k1 =>
    have H := HA.out
    clear HA
    simp only [zz.l0] at H
    by_cases c7 : x13_1 < (l0_0.length : Int)
    ·rw [if_pos c7] at H
     have c7b0 : decide (x13_1 < (l0_0.length : Int)) = true := decide_eq_true c7
     clear c7
     by_cases c8 : 0 ≤ x13_1
     ·rw [if_pos c8] at H
      have c8b0 : decide (0 ≤ x13_1) = true := decide_eq_true c8
      clear c8
      by_cases c9 : x13_1 < (l0_0.length : Int)
      ·rw [if_pos c9] at H
       have c9b0 : decide (x13_1 < (l0_0.length : Int)) = true := decide_eq_true c9
       clear c9
       replace H := Option.bind_eq_some_iff.mp H
       obtain ⟨t168, A100, H⟩ := H
       replace H : (if t168 = 0 then (zz.l0 k1 l0_0 (l0_0.length : Int) (wrap64 (x13_1 + 1))) else (some t168)) = some r := H
       have A10 := qa.mk A100
       clear A100
       by_cases c11 : t168 = 0
       ·rw [if_pos c11] at H
        have c11b0 : (t168 == 0) = true := beq_iff_eq.mpr c11
        have c11b1 : (t168 != 0) = false := bne_eq_false_iff_eq.mpr c11
        clear c11
        have H' := qa.mk H
        clear H
        have p167 : 0 ≤ (x13_1 : Int) := of_decide_eq_true (by first | (with_reducible assumption) | assumption)
        have q167 : x13_1 < (l0_0.length : Int) := of_decide_eq_true (by first | (with_reducible assumption) | assumption)
        obtain ⟨ad167, A167_0, c167_0, e167, hx167_0, hl167_0, hi167_0⟩ := at_L4 HR0_0.out x13_1 p167 q167
        cases e167
        replace hx167_0 := (HB.out.cell (World.block_lt_of_cell? w _ hx167_0)).trans hx167_0
        have HR167_0 := qa.mk hi167_0
        have HC167_0 := qa.mk hl167_0
        clear hi167_0 hl167_0
        replace p167 := eq_true p167
        replace q167 := eq_true q167
        go_wp2_with (first | ((with_reducible refine zk (f := 19) rfl ?_); refine xv (some 18) rfl rfl Tryd.func19 (by kernel_rfl) rfl #[.slice A167_0 (xi l0_0 x13_1).length c167_0] rfl (by (try simp only [List.map_toArray, List.map_cons, List.map_nil]); first | done | rfl | (simp only [List.length_drop, List.length_take]; rfl)) ?_; (with_reducible refine (qu.calls k1 _ _ (xi l0_0 x13_1) t168 _ ?side3 ?side1 ?side2 A10.out).mono ?_); (case side1 => repeat (first | exact (Kd.xc HR167_0.out HB.out) | (with_reducible refine Kd.ke ?_ _) | (with_reducible refine Kd.kf ?_ _) | (with_reducible refine Kd.ks ?_))); (case side2 => exact HC167_0.out); (case side3 => exact LibHeld.below HG.out (by repeat (first | (with_reducible first | exact HB.out | apply qc | apply qb | apply qd | refine qe ?_ GE166.out) | exact HB.out))); rintro e w12 ⟨rfl, hb⟩; refine ⟨_, rfl, ?_⟩; have n0_ := qa.mk (qt (g := gb166) (o := .cells #[.slice (some ad167) l0_0.length c0_0] 24 (0, 0)) (by (with_reducible repeat (first | refine qg ?_ _ | refine qh ?_ | refine qf ?_ _)); exact BK166.out) hb); have n1_ := qa.mk (qj (by repeat (first | (with_reducible first | exact HB.out | apply qc | apply qb | apply qd | refine qe ?_ GE166.out) | exact HB.out)) hb); clear BK166; clear HB; have BK166 := n0_; have HB := n1_; clear n0_ n1_; (try clear hb); (try clear hb2); (try clear hk); (try clear hi)))
        go_roundg k1
        case measure => have := HK1.out; omega
        case rel => exact ⟨(wrap64 (x13_1 + 1)), (by first | rfl | (simp; done) | (simp [*]; done)), H', ⟨by have := HK1.out; omega⟩, ⟨by (with_reducible repeat (first | refine qg ?_ _ | refine qh ?_ | refine qf ?_ _)); exact BK166.out⟩, ⟨by repeat (first | (with_reducible first | exact HB.out | apply qc | apply qb | apply qd | refine qe ?_ GE166.out) | exact HB.out)⟩⟩
       ·rw [if_neg c11] at H
        have c11b0 : (t168 == 0) = false := beq_eq_false_iff_ne.mpr c11
        have c11b1 : (t168 != 0) = true := bne_iff_ne.mpr c11
        obtain rfl := Option.some.inj H
        have p167 : 0 ≤ (x13_1 : Int) := of_decide_eq_true (by first | (with_reducible assumption) | assumption)
        have q167 : x13_1 < (l0_0.length : Int) := of_decide_eq_true (by first | (with_reducible assumption) | assumption)
        obtain ⟨ad167, A167_0, c167_0, e167, hx167_0, hl167_0, hi167_0⟩ := at_L4 HR0_0.out x13_1 p167 q167
        cases e167
        replace hx167_0 := (HB.out.cell (World.block_lt_of_cell? w _ hx167_0)).trans hx167_0
        have HR167_0 := qa.mk hi167_0
        have HC167_0 := qa.mk hl167_0
        clear hi167_0 hl167_0
        replace p167 := eq_true p167
        replace q167 := eq_true q167
        go_wp2_with (first | ((with_reducible refine zk (f := 19) rfl ?_); refine xv (some 18) rfl rfl Tryd.func19 (by kernel_rfl) rfl #[.slice A167_0 (xi l0_0 x13_1).length c167_0] rfl (by (try simp only [List.map_toArray, List.map_cons, List.map_nil]); first | done | rfl | (simp only [List.length_drop, List.length_take]; rfl)) ?_; (with_reducible refine (qu.calls k1 _ _ (xi l0_0 x13_1) t168 _ ?side3 ?side1 ?side2 A10.out).mono ?_); (case side1 => repeat (first | exact (Kd.xc HR167_0.out HB.out) | (with_reducible refine Kd.ke ?_ _) | (with_reducible refine Kd.kf ?_ _) | (with_reducible refine Kd.ks ?_))); (case side2 => exact HC167_0.out); (case side3 => exact LibHeld.below HG.out (by repeat (first | (with_reducible first | exact HB.out | apply qc | apply qb | apply qd | refine qe ?_ GE166.out) | exact HB.out))); rintro e w13 ⟨rfl, hb⟩; refine ⟨_, rfl, ?_⟩; have n0_ := qa.mk (qt (g := gb166) (o := .cells #[.slice (some ad167) l0_0.length c0_0] 24 (0, 0)) (by (with_reducible repeat (first | refine qg ?_ _ | refine qh ?_ | refine qf ?_ _)); exact BK166.out) hb); have n1_ := qa.mk (qj (by repeat (first | (with_reducible first | exact HB.out | apply qc | apply qb | apply qd | refine qe ?_ GE166.out) | exact HB.out)) hb); clear BK166; clear HB; have BK166 := n0_; have HB := n1_; clear n0_ n1_; (try clear hb); (try clear hb2); (try clear hk); (try clear hi)))
        go_ret
        exact ⟨by first | rfl | (simp [qq, qp] <;> rfl) | (simp [*, qq, qp] <;> rfl), by repeat (first | (with_reducible first | exact HB.out | apply qc | apply qb | apply qd | refine qe ?_ GE166.out) | exact HB.out)⟩
      ·rw [if_neg c9] at H
       exact absurd H (by simp)
     ·rw [if_neg c8] at H
      exact absurd H (by simp)
    ·rw [if_neg c7] at H
     have c7b0 : decide (x13_1 < (l0_0.length : Int)) = false := decide_eq_false c7
     clear c7
     obtain rfl := Option.some.inj H
     go_wp2
     go_ret
     exact ⟨by first | rfl | (simp [qq, qp] <;> rfl) | (simp [*, qq, qp] <;> rfl), by repeat (first | (with_reducible first | exact HB.out | apply qc | apply qb | apply qd | refine qe ?_ GE166.out) | exact HB.out)⟩
def strings_Cut.f (a0 a1 : ByteArray) : Option (ByteArray × ByteArray × Bool) := if a0.size < 4294967281 then some (⟨(Lib.cut a0.data.toList a1.data.toList).1.toArray⟩, ⟨(Lib.cut a0.data.toList a1.data.toList).2.1.toArray⟩, (Lib.cut a0.data.toList a1.data.toList).2.2) else none
theorem strings_Cut.calls (a0 : ByteArray) (a1 : ByteArray) (r1 : ByteArray) (r2 : ByteArray) (r3 : Bool) (w : World) (hG : LibHeld w) (h : strings_Cut.f a0 a1 = some (r1, r2, r3)) :
  Calls Tryd.prog 46 #[.string a0, .string a1] w fun e w' => e = .returned (.tuple #[.string r1, .string r2, .bool r3]) ∧ Below w.heap.size w w' := by
 unfold strings_Cut.f at h
 split at h
 ·rename_i hc
  obtain ⟨rfl, rfl, rfl⟩ := (by simpa using h : _ ∧ _ ∧ _)
  obtain ⟨m, hm⟩ := hG.maxLen
  refine (Tryd.strings_Cut a0 a1 m w hc hm).mono fun e w' ⟨he, n, hw⟩ => ⟨he, ?_⟩
  rw [hw]
  exact qb (Below.refl _ _) n
 ·exact absurd h (by simp)
def jd.f  : Option ((List (S75))) := some (([(⟨(⟨#[67, 78]⟩ : ByteArray), (⟨#[50, 46, 53, 46, 52, 46, 51]⟩ : ByteArray)⟩ : S75), (⟨(⟨#[67]⟩ : ByteArray), (⟨#[50, 46, 53, 46, 52, 46, 54]⟩ : ByteArray)⟩ : S75), (⟨(⟨#[76]⟩ : ByteArray), (⟨#[50, 46, 53, 46, 52, 46, 55]⟩ : ByteArray)⟩ : S75), (⟨(⟨#[79]⟩ : ByteArray), (⟨#[50, 46, 53, 46, 52, 46, 49, 48]⟩ : ByteArray)⟩ : S75), (⟨(⟨#[79, 85]⟩ : ByteArray), (⟨#[50, 46, 53, 46, 52, 46, 49, 49]⟩ : ByteArray)⟩ : S75), (⟨(⟨#[68, 67]⟩ : ByteArray), (⟨#[48, 46, 57, 46, 50, 51, 52, 50, 46, 49, 57, 50, 48, 48, 51, 48, 48, 46, 49, 48, 48, 46, 49, 46, 50, 53]⟩ : ByteArray)⟩ : S75), (⟨(⟨#[69]⟩ : ByteArray), (⟨#[49, 46, 50, 46, 56, 52, 48, 46, 49, 49, 51, 53, 52, 57, 46, 49, 46, 57, 46, 49]⟩ : ByteArray)⟩ : S75)] : List (S75)))
set_option maxHeartbeats 8000000 in
set_option maxRecDepth 100000 in
theorem jd.calls  (r : List (S75)) (w : World) (h : jd.f  = some r) :
  Calls Tryd.prog 47 #[] w fun e w' => ∃ v0_ : Value, e = .returned (v0_) ∧ Kd.R k75 75 w' w.heap.size (fun _ => True) v0_ r ∧ Below w.heap.size w w' := by
 have hu75 := Tryd.underlying75
 have HB := qa.mk (Below.refl w.heap.size w)
 have H : (some (([(⟨(⟨#[67, 78]⟩ : ByteArray), (⟨#[50, 46, 53, 46, 52, 46, 51]⟩ : ByteArray)⟩ : S75), (⟨(⟨#[67]⟩ : ByteArray), (⟨#[50, 46, 53, 46, 52, 46, 54]⟩ : ByteArray)⟩ : S75), (⟨(⟨#[76]⟩ : ByteArray), (⟨#[50, 46, 53, 46, 52, 46, 55]⟩ : ByteArray)⟩ : S75), (⟨(⟨#[79]⟩ : ByteArray), (⟨#[50, 46, 53, 46, 52, 46, 49, 48]⟩ : ByteArray)⟩ : S75), (⟨(⟨#[79, 85]⟩ : ByteArray), (⟨#[50, 46, 53, 46, 52, 46, 49, 49]⟩ : ByteArray)⟩ : S75), (⟨(⟨#[68, 67]⟩ : ByteArray), (⟨#[48, 46, 57, 46, 50, 51, 52, 50, 46, 49, 57, 50, 48, 48, 51, 48, 48, 46, 49, 48, 48, 46, 49, 46, 50, 53]⟩ : ByteArray)⟩ : S75), (⟨(⟨#[69]⟩ : ByteArray), (⟨#[49, 46, 50, 46, 56, 52, 48, 46, 49, 49, 51, 53, 52, 57, 46, 49, 46, 57, 46, 49]⟩ : ByteArray)⟩ : S75)] : List (S75)))) = some r := h
 clear h
 obtain ⟨y169, hy169⟩ : ∃ y_ : List (S75), y_ = (([(⟨(⟨#[67, 78]⟩ : ByteArray), (⟨#[50, 46, 53, 46, 52, 46, 51]⟩ : ByteArray)⟩ : S75), (⟨(⟨#[67]⟩ : ByteArray), (⟨#[50, 46, 53, 46, 52, 46, 54]⟩ : ByteArray)⟩ : S75), (⟨(⟨#[76]⟩ : ByteArray), (⟨#[50, 46, 53, 46, 52, 46, 55]⟩ : ByteArray)⟩ : S75), (⟨(⟨#[79]⟩ : ByteArray), (⟨#[50, 46, 53, 46, 52, 46, 49, 48]⟩ : ByteArray)⟩ : S75), (⟨(⟨#[79, 85]⟩ : ByteArray), (⟨#[50, 46, 53, 46, 52, 46, 49, 49]⟩ : ByteArray)⟩ : S75), (⟨(⟨#[68, 67]⟩ : ByteArray), (⟨#[48, 46, 57, 46, 50, 51, 52, 50, 46, 49, 57, 50, 48, 48, 51, 48, 48, 46, 49, 48, 48, 46, 49, 46, 50, 53]⟩ : ByteArray)⟩ : S75), (⟨(⟨#[69]⟩ : ByteArray), (⟨#[49, 46, 50, 46, 56, 52, 48, 46, 49, 49, 51, 53, 52, 57, 46, 49, 46, 57, 46, 49]⟩ : ByteArray)⟩ : S75)] : List (S75))) := ⟨_, rfl⟩
 replace H : (some y169) = some r := by first | (rw [hy169]; with_reducible exact H) | (have H2_ := (Option.bind_some _ _).symm.trans H; rw [hy169]; with_reducible exact H2_) | (have H2_ := (Option.bind_some _ _).symm.trans H; with_reducible exact H2_) | with_reducible exact H | (rw [hy169]; exact H) | exact H
 have Ny169 := qa.mk hy169
 clear hy169
 obtain rfl := Option.some.inj H
 go_enter Tryd.func47, Tryd.ntmps47
 go_wp2_with (first | ((with_reducible refine zd (N := 8) rfl ?_); refine Kd.R_lit k75 _ 75 ?hg (N := 8) ?hd (xs := ([(⟨(⟨#[67, 78]⟩ : ByteArray), (⟨#[50, 46, 53, 46, 52, 46, 51]⟩ : ByteArray)⟩ : S75), (⟨(⟨#[67]⟩ : ByteArray), (⟨#[50, 46, 53, 46, 52, 46, 54]⟩ : ByteArray)⟩ : S75), (⟨(⟨#[76]⟩ : ByteArray), (⟨#[50, 46, 53, 46, 52, 46, 55]⟩ : ByteArray)⟩ : S75), (⟨(⟨#[79]⟩ : ByteArray), (⟨#[50, 46, 53, 46, 52, 46, 49, 48]⟩ : ByteArray)⟩ : S75), (⟨(⟨#[79, 85]⟩ : ByteArray), (⟨#[50, 46, 53, 46, 52, 46, 49, 49]⟩ : ByteArray)⟩ : S75), (⟨(⟨#[68, 67]⟩ : ByteArray), (⟨#[48, 46, 57, 46, 50, 51, 52, 50, 46, 49, 57, 50, 48, 48, 51, 48, 48, 46, 49, 48, 48, 46, 49, 46, 50, 53]⟩ : ByteArray)⟩ : S75), (⟨(⟨#[69]⟩ : ByteArray), (⟨#[49, 46, 50, 46, 56, 52, 48, 46, 49, 49, 51, 53, 52, 57, 46, 49, 46, 57, 46, 49]⟩ : ByteArray)⟩ : S75)] : List (S75))) (inner := [.string (⟨#[67, 78]⟩ : ByteArray), .string (⟨#[50, 46, 53, 46, 52, 46, 51]⟩ : ByteArray), .string (⟨#[67]⟩ : ByteArray), .string (⟨#[50, 46, 53, 46, 52, 46, 54]⟩ : ByteArray), .string (⟨#[76]⟩ : ByteArray), .string (⟨#[50, 46, 53, 46, 52, 46, 55]⟩ : ByteArray), .string (⟨#[79]⟩ : ByteArray), .string (⟨#[50, 46, 53, 46, 52, 46, 49, 48]⟩ : ByteArray), .string (⟨#[79, 85]⟩ : ByteArray), .string (⟨#[50, 46, 53, 46, 52, 46, 49, 49]⟩ : ByteArray), .string (⟨#[68, 67]⟩ : ByteArray), .string (⟨#[48, 46, 57, 46, 50, 51, 52, 50, 46, 49, 57, 50, 48, 48, 51, 48, 48, 46, 49, 48, 48, 46, 49, 46, 50, 53]⟩ : ByteArray), .string (⟨#[69]⟩ : ByteArray), .string (⟨#[49, 46, 50, 46, 56, 52, 48, 46, 49, 49, 51, 53, 52, 57, 46, 49, 46, 57, 46, 49]⟩ : ByteArray)]) (ok := fun _ => True) (okp := fun _ => True) ?hr ?hp (fun _ hk => hk) trivial (Below.refl _ _) (Nat.le_refl _) (by simp) ?_; (case hd => rfl); (case hg => rfl); (case hr => first | (go_simp; done) | (go_simp; rfl)); (case hp => exact (Reps.c2 (show Kd.M k75 _ _ _ (⟨(⟨#[67, 78]⟩ : ByteArray), (⟨#[50, 46, 53, 46, 52, 46, 51]⟩ : ByteArray)⟩ : S75) [.string (⟨#[67, 78]⟩ : ByteArray), .string (⟨#[50, 46, 53, 46, 52, 46, 51]⟩ : ByteArray)] from (k75_mkM _ _ _ (⟨(⟨#[67, 78]⟩ : ByteArray), (⟨#[50, 46, 53, 46, 52, 46, 51]⟩ : ByteArray)⟩ : S75) )) (Reps.c2 (show Kd.M k75 _ _ _ (⟨(⟨#[67]⟩ : ByteArray), (⟨#[50, 46, 53, 46, 52, 46, 54]⟩ : ByteArray)⟩ : S75) [.string (⟨#[67]⟩ : ByteArray), .string (⟨#[50, 46, 53, 46, 52, 46, 54]⟩ : ByteArray)] from (k75_mkM _ _ _ (⟨(⟨#[67]⟩ : ByteArray), (⟨#[50, 46, 53, 46, 52, 46, 54]⟩ : ByteArray)⟩ : S75) )) (Reps.c2 (show Kd.M k75 _ _ _ (⟨(⟨#[76]⟩ : ByteArray), (⟨#[50, 46, 53, 46, 52, 46, 55]⟩ : ByteArray)⟩ : S75) [.string (⟨#[76]⟩ : ByteArray), .string (⟨#[50, 46, 53, 46, 52, 46, 55]⟩ : ByteArray)] from (k75_mkM _ _ _ (⟨(⟨#[76]⟩ : ByteArray), (⟨#[50, 46, 53, 46, 52, 46, 55]⟩ : ByteArray)⟩ : S75) )) (Reps.c2 (show Kd.M k75 _ _ _ (⟨(⟨#[79]⟩ : ByteArray), (⟨#[50, 46, 53, 46, 52, 46, 49, 48]⟩ : ByteArray)⟩ : S75) [.string (⟨#[79]⟩ : ByteArray), .string (⟨#[50, 46, 53, 46, 52, 46, 49, 48]⟩ : ByteArray)] from (k75_mkM _ _ _ (⟨(⟨#[79]⟩ : ByteArray), (⟨#[50, 46, 53, 46, 52, 46, 49, 48]⟩ : ByteArray)⟩ : S75) )) (Reps.c2 (show Kd.M k75 _ _ _ (⟨(⟨#[79, 85]⟩ : ByteArray), (⟨#[50, 46, 53, 46, 52, 46, 49, 49]⟩ : ByteArray)⟩ : S75) [.string (⟨#[79, 85]⟩ : ByteArray), .string (⟨#[50, 46, 53, 46, 52, 46, 49, 49]⟩ : ByteArray)] from (k75_mkM _ _ _ (⟨(⟨#[79, 85]⟩ : ByteArray), (⟨#[50, 46, 53, 46, 52, 46, 49, 49]⟩ : ByteArray)⟩ : S75) )) (Reps.c2 (show Kd.M k75 _ _ _ (⟨(⟨#[68, 67]⟩ : ByteArray), (⟨#[48, 46, 57, 46, 50, 51, 52, 50, 46, 49, 57, 50, 48, 48, 51, 48, 48, 46, 49, 48, 48, 46, 49, 46, 50, 53]⟩ : ByteArray)⟩ : S75) [.string (⟨#[68, 67]⟩ : ByteArray), .string (⟨#[48, 46, 57, 46, 50, 51, 52, 50, 46, 49, 57, 50, 48, 48, 51, 48, 48, 46, 49, 48, 48, 46, 49, 46, 50, 53]⟩ : ByteArray)] from (k75_mkM _ _ _ (⟨(⟨#[68, 67]⟩ : ByteArray), (⟨#[48, 46, 57, 46, 50, 51, 52, 50, 46, 49, 57, 50, 48, 48, 51, 48, 48, 46, 49, 48, 48, 46, 49, 46, 50, 53]⟩ : ByteArray)⟩ : S75) )) (Reps.c2 (show Kd.M k75 _ _ _ (⟨(⟨#[69]⟩ : ByteArray), (⟨#[49, 46, 50, 46, 56, 52, 48, 46, 49, 49, 51, 53, 52, 57, 46, 49, 46, 57, 46, 49]⟩ : ByteArray)⟩ : S75) [.string (⟨#[69]⟩ : ByteArray), .string (⟨#[49, 46, 50, 46, 56, 52, 48, 46, 49, 49, 51, 53, 52, 57, 46, 49, 46, 57, 46, 49]⟩ : ByteArray)] from (k75_mkM _ _ _ (⟨(⟨#[69]⟩ : ByteArray), (⟨#[49, 46, 50, 46, 56, 52, 48, 46, 49, 49, 51, 53, 52, 57, 46, 49, 46, 57, 46, 49]⟩ : ByteArray)⟩ : S75) )) (Reps.none _ _))))))))); intro v170 w1 ho2 hb hg_ hnew_; clear hg_ hnew_; (first | rw [← Ny169.out] at ho2 | (simp only [Int.reduceToNat] at ho2; rw [← Ny169.out] at ho2)); have n0_ := qa.mk (Kd.R_lower ho2 (qm (by repeat (first | (with_reducible first | exact HB.out | apply qc | apply qb | apply qd) | exact HB.out)))); have n1_ := qa.mk (qj (by repeat (first | (with_reducible first | exact HB.out | apply qc | apply qb | apply qd) | exact HB.out)) hb); clear HB; have HO171 := n0_; have HB := n1_; clear n0_ n1_; clear hb ho2))
 go_ret
 exact ⟨_, by first | rfl | (simp [qq, qp] <;> rfl) | (simp [*, qq, qp] <;> rfl), by (with_reducible repeat (first | apply Kd.zi | apply Kd.ze | apply Kd.zv)); exact HO171.out, by repeat (first | (with_reducible first | exact HB.out | apply qc | apply qb | apply qd) | exact HB.out)⟩
def kc.f (a0 : Int) : Option (Bool) := (kn.f a0).bind fun t172 => (if t172 = true then (some true) else ((strings_IndexByte.f (⟨#[32, 39, 40, 41, 45, 46, 47, 58, 63, 64, 95]⟩ : ByteArray) a0).bind fun t173 => (some (decide (t173 ≥ 0)))))
set_option maxHeartbeats 8000000 in
set_option maxRecDepth 100000 in
theorem kc.calls (a0 : Int) (r : Bool) (w : World) (h : kc.f a0 = some r) :
  Calls Tryd.prog 59 #[.int .u8 a0] w fun e w' => e = .returned (.bool r) ∧ zq w w' := by
 have H : ((kn.f a0).bind fun t172 => (if t172 = true then (some true) else ((strings_IndexByte.f (⟨#[32, 39, 40, 41, 45, 46, 47, 58, 63, 64, 95]⟩ : ByteArray) a0).bind fun t173 => (some (decide (t173 ≥ 0)))))) = some r := h
 clear h
 replace H := Option.bind_eq_some_iff.mp H
 obtain ⟨t172, A20, H⟩ := H
 replace H : (if t172 = true then (some true) else ((strings_IndexByte.f (⟨#[32, 39, 40, 41, 45, 46, 47, 58, 63, 64, 95]⟩ : ByteArray) a0).bind fun t173 => (some (decide (t173 ≥ 0))))) = some r := H
 have A2 := qa.mk A20
 clear A20
 by_cases c3 : t172 = true
 ·subst c3
  have H1 : (some true) = some r := by rw [if_pos rfl] at H; exact H
  clear H
  have H := H1
  clear H1
  obtain rfl := Option.some.inj H
  go_enter Tryd.func59, Tryd.ntmps59
  go_wp2_with (first | ((with_reducible refine zk (f := 38) rfl ?_); refine xv (some 4) rfl rfl Tryd.func38 (by kernel_rfl) rfl #[.int .u8 a0] rfl (by (try simp only [List.map_toArray, List.map_cons, List.map_nil]); first | done | rfl | (simp only [List.length_drop, List.length_take]; rfl)) ?_; (with_reducible refine (kn.calls a0 true _ A2.out).mono ?_); rintro e w' ⟨rfl, ⟨nd, rfl⟩⟩; refine ⟨_, rfl, ?_⟩))
  go_ret
  exact ⟨by first | rfl | (simp; done) | (simp [*]; done), by repeat (first | exact zq.refl _ | apply zq.step)⟩
 ·replace c3 := Bool.eq_false_iff.mpr c3
  subst c3
  have H1 : ((strings_IndexByte.f (⟨#[32, 39, 40, 41, 45, 46, 47, 58, 63, 64, 95]⟩ : ByteArray) a0).bind fun t173 => (some (decide (t173 ≥ 0)))) = some r := by rw [if_neg (show ¬ (false = true) by decide)] at H; exact H
  clear H
  have H := H1
  clear H1
  replace H := Option.bind_eq_some_iff.mp H
  obtain ⟨t173, A40, H⟩ := H
  replace H : (some (decide (t173 ≥ 0))) = some r := H
  have A4 := qa.mk A40
  clear A40
  obtain rfl := Option.some.inj H
  go_enter Tryd.func59, Tryd.ntmps59
  go_wp2_with (first | ((with_reducible refine zk (f := 38) rfl ?_); refine xv (some 4) rfl rfl Tryd.func38 (by kernel_rfl) rfl #[.int .u8 a0] rfl (by (try simp only [List.map_toArray, List.map_cons, List.map_nil]); first | done | rfl | (simp only [List.length_drop, List.length_take]; rfl)) ?_; (with_reducible refine (kn.calls a0 false _ A2.out).mono ?_); rintro e w' ⟨rfl, ⟨nd, rfl⟩⟩; refine ⟨_, rfl, ?_⟩) | (go_at_call 39; (with_reducible refine (strings_IndexByte.calls (⟨#[32, 39, 40, 41, 45, 46, 47, 58, 63, 64, 95]⟩ : ByteArray) a0 t173 _ A4.out).mono ?_); rintro e w' ⟨rfl, ⟨nd, rfl⟩⟩))
  go_ret
  exact ⟨by first | rfl | (simp; done) | (simp [*]; done), by repeat (first | exact zq.refl _ | apply zq.step)⟩
end Go.Proofs.YtjhlinifnjoefaaDoor.C
end
