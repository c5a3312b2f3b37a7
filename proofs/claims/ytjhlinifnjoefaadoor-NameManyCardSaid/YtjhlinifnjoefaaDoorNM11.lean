/- Words, walks and plain laws that the claim rests on, gathered. -/
import Derived.Lib.ConvBytes
import Derived.Shelf.Small.Strs
import Derived.Shelf.Strings.Search1
import Derived.Shelf.Strings.Search2
import Derived.Shelf.Strings.Search3
import Derived.Shelf.Strings.Cut
import Derived.Shelf.Strings.Count
import Derived.Shelf.LaysM
import Derived.Shelf.Strings.Shaped
import Derived.Shelf.Strings.Prefix
import Derived.Shelf.Strings.Split
import Derived.Shelf.Strings.SplitShaped
import Derived.Shelf.Unicode.DecodeSlow
import Derived.Test.YtjhlinifnjoefaaDoorProg
import Derived.Laws.StructEq
import Derived.WalkSpells
import Derived.Below
import Derived.Deep.Draws
import Derived.Deep.AppendLies
import Derived.Maps.AppendAt
import Derived.OwnWalk
import Derived.Laws.BytesArg
import Derived.Laws.MakeOwn
import Derived.Laws.OwnMore
import Derived.Deep.OwnRows
import Derived.Tactics
import Derived.Laws.Slices
import Derived.WalkKit
import Derived.KernelRfl
import Derived.RowKit3
import Derived.Deep.LoopGhost
import Derived.Deep.QuietTactic
import Derived.BigQuiet
import Derived.WideLaws
import Derived.Deep.DeepCutAuto
import Derived.Deep.CutBlock
import Derived.Deep.RegionHeld3
import Derived.Laws.Rows
import Derived.Lib.AppendStr
import Derived.ArgAppend
import Derived.Laws.IdiomCopy
import Derived.OrdersHeld
import Derived.Laws.BitsLemmas
import Derived.RowKit
import Derived.Lib.SplitLaws
import Derived.Test.YtjhlinifnjoefaaDoorNM0
import Derived.Test.YtjhlinifnjoefaaDoorNM1
import Derived.Test.YtjhlinifnjoefaaDoorNM2
import Derived.Test.YtjhlinifnjoefaaDoorNM3
import Derived.Test.YtjhlinifnjoefaaDoorNM4
import Derived.Test.YtjhlinifnjoefaaDoorNM5
import Derived.Test.YtjhlinifnjoefaaDoorNM6
import Derived.Test.YtjhlinifnjoefaaDoorNM7
import Derived.Test.YtjhlinifnjoefaaDoorNM8
import Derived.Test.YtjhlinifnjoefaaDoorNM9
import Derived.Test.YtjhlinifnjoefaaDoorNM10
namespace Go.Proofs.YtjhlinifnjoefaaDoorW.PrintLast
end Go.Proofs.YtjhlinifnjoefaaDoorW.PrintLast
namespace Go.Proofs.YtjhlinifnjoefaaDoorW.PrintMore
end Go.Proofs.YtjhlinifnjoefaaDoorW.PrintMore
namespace Go.Proofs.YtjhlinifnjoefaaDoorW.PrintWords
end Go.Proofs.YtjhlinifnjoefaaDoorW.PrintWords
section
namespace Go.Proofs.YtjhlinifnjoefaaDoor.C
open Go.RowKit Go.Proofs.YtjhlinifnjoefaaDoorW.PrintWords Go.Proofs.YtjhlinifnjoefaaDoorW.PrintLast Go.Proofs.YtjhlinifnjoefaaDoorW.PrintMore
attribute [local go_sem] xf xd xm xn z7 z6 xc xe
set_option linter.unusedVariables false
set_option linter.unusedSimpArgs false
def qy.l0 : Nat → List (List (S26)) → Int → Int → Option (Int)
 | 0, _, _, _ => none
 | k + 1, x11, x12, x13 => if x13 < x12 then (if 0 ≤ x13 then (if x13 < (x11.length : Int) then (if ((xq x11 x13).length : Int) = 0 then (some 14) else (if ((xq x11 x13).length : Int) > 4 then (some 2) else ((qj.f k (xq x11 x13)).bind fun t253 => (if t253 = 0 then (qy.l0 k x11 x12 (wrap64 (x13 + 1))) else (some t253))))) else (none)) else (none)) else (some 0)
def qy.f (k : Nat) (l0_0 : List (List (S26))) : Option (Int) := if (l0_0.length : Int) > 8 then (some 2) else (qy.l0 k l0_0 (l0_0.length : Int) 0)
theorem qy.zy : ∀ k, (∀ y0 y1 y2, LeO (qy.l0 k y0 y1 y2) (qy.l0 (k + 1) y0 y1 y2))
 | 0 => fun _ _ _ r h => by simp [qy.l0] at h
 | k + 1 => by
  have ih0 := qy.zy k
  ·intro y0 y1 y2
   unfold qy.l0
   repeat' first
   | (with_reducible exact ih0 _ _ _)
   | (with_reducible exact qj.mono _ _)
   | (with_reducible exact LeO.refl _)
   | (with_reducible exact LeO.none _)
   | (with_reducible refine LeO.ite ?_ ?_)
   | (with_reducible refine LeO.bind ?_ (fun _ => ?_))
theorem qy.mono : ∀ a0 k, LeO (qy.f k a0) (qy.f (k + 1) a0) := by
 intro a0 k
 have ih0 := qy.zy k
 unfold qy.f
 repeat' first
   | (with_reducible exact ih0 _ _ _)
   | (with_reducible exact qj.mono _ _)
   | (with_reducible exact LeO.refl _)
   | (with_reducible exact LeO.none _)
   | (with_reducible refine LeO.ite ?_ ?_)
   | (with_reducible refine LeO.bind ?_ (fun _ => ?_))
set_option maxHeartbeats 8000000 in
set_option maxRecDepth 100000 in
theorem qy.calls (k : Nat) (A0_0 : Option Addr) (c0_0 : Nat) (l0_0 : List (List (S26))) (r : Int) (w : World) (hr0_0 : Kd.C (Kd.slice 26 k26) w A0_0 l0_0.length l0_0) (hc0_0 : l0_0.length ≤ c0_0) (h : qy.f k l0_0 = some r) :
  Calls Tryd.prog 8 #[.agg #[.slice A0_0 l0_0.length c0_0]] w fun e w' => e = .returned (.int .i64 r) ∧ Below w.heap.size w w' := by
 have hu24 := Tryd.underlying24
 have HR0_0 := qb.mk hr0_0
 have HC0_0 := qb.mk hc0_0
 clear hr0_0 hc0_0
 have HB := qb.mk (Below.refl w.heap.size w)
 have H : (if (l0_0.length : Int) > 8 then (some 2) else (qy.l0 k l0_0 (l0_0.length : Int) 0)) = some r := h
 clear h
 by_cases c2 : (l0_0.length : Int) > 8
 ·rw [if_pos c2] at H
  have c2b0 : decide (8 < (l0_0.length : Int)) = true := decide_eq_true c2
  have c2b1 : decide (8 < l0_0.length) = true := decide_eq_true (by omega)
  clear c2
  obtain rfl := Option.some.inj H
  go_enter Tryd.func8, Tryd.ntmps8
  go_wp2_with (first | ((with_reducible refine zl (N := 1) rfl ?_); refine zi ?hg (N := 1) ?hd (cs := #[.slice A0_0 l0_0.length c0_0]) (t := 24) ?hr ?_; (case hd => rfl); (case hg => rfl); (case hr => first | (go_simp; done) | (go_simp; rfl)); intro gb251 hg w3 hbox hb; have n0_ := qb.mk (qr (by repeat (first | (with_reducible first | exact HB.out | apply qc | apply qa | apply qd) | exact HB.out)) hb); have n1_ := qb.mk (hbox); have n2_ := qb.mk ((by rw [hg]; exact (qt (by repeat (first | (with_reducible first | exact HB.out | apply qc | apply qa | apply qd) | exact HB.out))) : w.heap.size ≤ gb251)); have n3_ := qb.mk ((by rw [hg]; exact (qt (by repeat (first | (with_reducible first | exact HB.out | apply qc | apply qa | apply qd) | exact HB.out))) : w.heap.size ≤ gb251)); clear HB; have HB := n0_; have BK251 := n1_; have GW251 := n2_; have GE251 := n3_; clear n0_ n1_ n2_ n3_; clear hb hbox hg; have hcz4_0 : w3.cell? ⟨gb251, 0, none⟩ = some (.slice A0_0 l0_0.length c0_0) := (qq BK251.out 0).trans rfl; have hfz4_0 := qo BK251.out 0))
  go_ret
  exact ⟨by first | rfl | (simp [qv, qu] <;> rfl) | (simp [*, qv, qu] <;> rfl), by repeat (first | (with_reducible first | exact HB.out | apply qc | apply qa | apply qd | refine qh ?_ GE251.out) | exact HB.out)⟩
 ·rw [if_neg c2] at H
  have c2b0 : decide (8 < (l0_0.length : Int)) = false := decide_eq_false c2
  have c2b1 : decide (8 < l0_0.length) = false := decide_eq_false (by omega)
  clear c2
  have H' := qb.mk H
  clear H
  go_enter Tryd.func8, Tryd.ntmps8
  go_wp2_with (first | ((with_reducible refine zl (N := 1) rfl ?_); refine zi ?hg (N := 1) ?hd (cs := #[.slice A0_0 l0_0.length c0_0]) (t := 24) ?hr ?_; (case hd => rfl); (case hg => rfl); (case hr => first | (go_simp; done) | (go_simp; rfl)); intro gb251 hg w5 hbox hb; have n0_ := qb.mk (qr (by repeat (first | (with_reducible first | exact HB.out | apply qc | apply qa | apply qd) | exact HB.out)) hb); have n1_ := qb.mk (hbox); have n2_ := qb.mk ((by rw [hg]; exact (qt (by repeat (first | (with_reducible first | exact HB.out | apply qc | apply qa | apply qd) | exact HB.out))) : w.heap.size ≤ gb251)); have n3_ := qb.mk ((by rw [hg]; exact (qt (by repeat (first | (with_reducible first | exact HB.out | apply qc | apply qa | apply qd) | exact HB.out))) : w.heap.size ≤ gb251)); clear HB; have HB := n0_; have BK251 := n1_; have GW251 := n2_; have GE251 := n3_; clear n0_ n1_ n2_ n3_; clear hb hbox hg; have hcz6_0 : w5.cell? ⟨gb251, 0, none⟩ = some (.slice A0_0 l0_0.length c0_0) := (qq BK251.out 0).trans rfl; have hfz6_0 := qo BK251.out 0))
  go_loopg [13] k (fun kq v13 w' => ∃ (x13_1 : Int), v13 = .int .i64 x13_1 ∧ qb (qy.l0 kq l0_0 (l0_0.length : Int) x13_1 = some r) ∧ qb (kq ≤ k) ∧ qb (w'.heap[gb251]? = some (.cells #[(.slice A0_0 l0_0.length c0_0)] 24 (0, 0))) ∧ qb (Below w.heap.size w w'))
  case atStart => exact ⟨(0), (by first | rfl | (simp; done) | (simp [*]; done)), H', ⟨Nat.le_refl _⟩, ⟨by (with_reducible repeat (first | refine qi ?_ _ | refine ql ?_ | refine qg ?_ _)); exact BK251.out⟩, ⟨by repeat (first | (with_reducible first | exact HB.out | apply qc | apply qa | apply qd | refine qh ?_ GE251.out) | exact HB.out)⟩⟩
  case round =>
   clear H'
   (try clear c2); (try clear c2b0); (try clear c2b1); (try clear p2); (try clear hcz4_0); (try clear hcz6_0); (try clear hfz4_0); try clear hfz6_0
   obtain ⟨x13_1, rfl, HA, HK1, BK251, HB⟩ := hrel
   cases gk with
   | zero => exact absurd HA.out (by simp [qy.l0])
   | succ k1 =>
    have H := HA.out
    clear HA
    simp only [qy.l0] at H
    by_cases c7 : x13_1 < (l0_0.length : Int)
    ·rw [if_pos c7] at H
     have c7b0 : decide (x13_1 < (l0_0.length : Int)) = true := decide_eq_true c7
     clear c7
     by_cases c8 : 0 ≤ x13_1
     ·rw [if_pos c8] at H
      have c8b0 : decide (0 ≤ x13_1) = true := decide_eq_true c8
      clear c8
      by_cases c9 : x13_1 < (l0_0.length : Int)
      ·rw [if_pos c9] at H
       have c9b0 : decide (x13_1 < (l0_0.length : Int)) = true := decide_eq_true c9
       clear c9
       by_cases c10 : ((xq l0_0 x13_1).length : Int) = 0
       ·rw [if_pos c10] at H
        have c10b0 : (((xq l0_0 x13_1).length : Int) == 0) = true := beq_iff_eq.mpr c10
        have c10b1 : (((xq l0_0 x13_1).length : Int) != 0) = false := bne_eq_false_iff_eq.mpr c10
        clear c10
        obtain rfl := Option.some.inj H
        have p252 : 0 ≤ (x13_1 : Int) := of_decide_eq_true (by first | (with_reducible assumption) | assumption)
        have q252 : x13_1 < (l0_0.length : Int) := of_decide_eq_true (by first | (with_reducible assumption) | assumption)
        obtain ⟨ad252, A252_0, c252_0, e252, hx252_0, hl252_0, hi252_0⟩ := at_L4 HR0_0.out x13_1 p252 q252
        cases e252
        replace hx252_0 := (HB.out.cell (World.block_lt_of_cell? w _ hx252_0)).trans hx252_0
        have HR252_0 := qb.mk hi252_0
        have HC252_0 := qb.mk hl252_0
        clear hi252_0 hl252_0
        replace p252 := eq_true p252
        replace q252 := eq_true q252
        go_wp2
        go_ret
        exact ⟨by first | rfl | (simp [qv, qu] <;> rfl) | (simp [*, qv, qu] <;> rfl), by repeat (first | (with_reducible first | exact HB.out | apply qc | apply qa | apply qd | refine qh ?_ GE251.out) | exact HB.out)⟩
       ·rw [if_neg c10] at H
        have c10b0 : (((xq l0_0 x13_1).length : Int) == 0) = false := beq_eq_false_iff_ne.mpr c10
        have c10b1 : (((xq l0_0 x13_1).length : Int) != 0) = true := bne_iff_ne.mpr c10
        have c10b2 : ¬ ((xq l0_0 x13_1) = []) := fun h_ => c10 (by rw [h_]; rfl)
        by_cases c11 : ((xq l0_0 x13_1).length : Int) > 4
        ·rw [if_pos c11] at H
         have c11b0 : decide (4 < ((xq l0_0 x13_1).length : Int)) = true := decide_eq_true c11
         have c11b1 : decide (4 < (xq l0_0 x13_1).length) = true := decide_eq_true (by omega)
         clear c11
         obtain rfl := Option.some.inj H
         have p252 : 0 ≤ (x13_1 : Int) := of_decide_eq_true (by first | (with_reducible assumption) | assumption)
         have q252 : x13_1 < (l0_0.length : Int) := of_decide_eq_true (by first | (with_reducible assumption) | assumption)
         obtain ⟨ad252, A252_0, c252_0, e252, hx252_0, hl252_0, hi252_0⟩ := at_L4 HR0_0.out x13_1 p252 q252
         cases e252
         replace hx252_0 := (HB.out.cell (World.block_lt_of_cell? w _ hx252_0)).trans hx252_0
         have HR252_0 := qb.mk hi252_0
         have HC252_0 := qb.mk hl252_0
         clear hi252_0 hl252_0
         replace p252 := eq_true p252
         replace q252 := eq_true q252
         go_wp2
         go_ret
         exact ⟨by first | rfl | (simp [qv, qu] <;> rfl) | (simp [*, qv, qu] <;> rfl), by repeat (first | (with_reducible first | exact HB.out | apply qc | apply qa | apply qd | refine qh ?_ GE251.out) | exact HB.out)⟩
        ·rw [if_neg c11] at H
         have c11b0 : decide (4 < ((xq l0_0 x13_1).length : Int)) = false := decide_eq_false c11
         have c11b1 : decide (4 < (xq l0_0 x13_1).length) = false := decide_eq_false (by omega)
         clear c11
         replace H := Option.bind_eq_some_iff.mp H
         obtain ⟨t253, A120, H⟩ := H
         replace H : (if t253 = 0 then (qy.l0 k1 l0_0 (l0_0.length : Int) (wrap64 (x13_1 + 1))) else (some t253)) = some r := H
         have A12 := qb.mk A120
         clear A120
         by_cases c13 : t253 = 0
         ·rw [if_pos c13] at H
          have c13b0 : (t253 == 0) = true := beq_iff_eq.mpr c13
          have c13b1 : (t253 != 0) = false := bne_eq_false_iff_eq.mpr c13
          clear c13
          have H' := qb.mk H
          clear H
          have p252 : 0 ≤ (x13_1 : Int) := of_decide_eq_true (by first | (with_reducible assumption) | assumption)
          have q252 : x13_1 < (l0_0.length : Int) := of_decide_eq_true (by first | (with_reducible assumption) | assumption)
          obtain ⟨ad252, A252_0, c252_0, e252, hx252_0, hl252_0, hi252_0⟩ := at_L4 HR0_0.out x13_1 p252 q252
          cases e252
          replace hx252_0 := (HB.out.cell (World.block_lt_of_cell? w _ hx252_0)).trans hx252_0
          have HR252_0 := qb.mk hi252_0
          have HC252_0 := qb.mk hl252_0
          clear hi252_0 hl252_0
          replace p252 := eq_true p252
          replace q252 := eq_true q252
          go_wp2_with (first | ((with_reducible refine zg (f := 20) rfl ?_); refine xh (some 24) rfl rfl Tryd.func20 (by kernel_rfl) rfl #[.slice A252_0 (xq l0_0 x13_1).length c252_0] rfl (by (try simp only [List.map_toArray, List.map_cons, List.map_nil]); first | done | rfl | (simp only [List.length_drop, List.length_take]; rfl)) ?_; (with_reducible refine (qj.calls k1 _ _ (xq l0_0 x13_1) t253 _ ?side1 ?side2 A12.out).mono ?_); (case side1 => repeat (first | exact (Kd.ka HR252_0.out HB.out) | (with_reducible refine Kd.ki ?_ _) | (with_reducible refine Kd.kj ?_ _) | (with_reducible refine Kd.C_drew ?_))); (case side2 => exact HC252_0.out); rintro e w14 ⟨rfl, hb⟩; refine ⟨_, rfl, ?_⟩; have n0_ := qb.mk (qz (g := gb251) (o := .cells #[.slice (some ad252) l0_0.length c0_0] 24 (0, 0)) (by (with_reducible repeat (first | refine qi ?_ _ | refine ql ?_ | refine qg ?_ _)); exact BK251.out) hb); have n1_ := qb.mk (qr (by repeat (first | (with_reducible first | exact HB.out | apply qc | apply qa | apply qd | refine qh ?_ GE251.out) | exact HB.out)) hb); clear BK251; clear HB; have BK251 := n0_; have HB := n1_; clear n0_ n1_; (try clear hb); (try clear hb2); (try clear hk); (try clear hi)))
          go_roundg k1
          case measure => have := HK1.out; omega
          case rel => exact ⟨(wrap64 (x13_1 + 1)), (by first | rfl | (simp; done) | (simp [*]; done)), H', ⟨by have := HK1.out; omega⟩, ⟨by (with_reducible repeat (first | refine qi ?_ _ | refine ql ?_ | refine qg ?_ _)); exact BK251.out⟩, ⟨by repeat (first | (with_reducible first | exact HB.out | apply qc | apply qa | apply qd | refine qh ?_ GE251.out) | exact HB.out)⟩⟩
         ·rw [if_neg c13] at H
          have c13b0 : (t253 == 0) = false := beq_eq_false_iff_ne.mpr c13
          have c13b1 : (t253 != 0) = true := bne_iff_ne.mpr c13
          obtain rfl := Option.some.inj H
          have p252 : 0 ≤ (x13_1 : Int) := of_decide_eq_true (by first | (with_reducible assumption) | assumption)
          have q252 : x13_1 < (l0_0.length : Int) := of_decide_eq_true (by first | (with_reducible assumption) | assumption)
          obtain ⟨ad252, A252_0, c252_0, e252, hx252_0, hl252_0, hi252_0⟩ := at_L4 HR0_0.out x13_1 p252 q252
          cases e252
          replace hx252_0 := (HB.out.cell (World.block_lt_of_cell? w _ hx252_0)).trans hx252_0
          have HR252_0 := qb.mk hi252_0
          have HC252_0 := qb.mk hl252_0
          clear hi252_0 hl252_0
          replace p252 := eq_true p252
          replace q252 := eq_true q252
          go_wp2_with (first | ((with_reducible refine zg (f := 20) rfl ?_); refine xh (some 24) rfl rfl Tryd.func20 (by kernel_rfl) rfl #[.slice A252_0 (xq l0_0 x13_1).length c252_0] rfl (by (try simp only [List.map_toArray, List.map_cons, List.map_nil]); first | done | rfl | (simp only [List.length_drop, List.length_take]; rfl)) ?_; (with_reducible refine (qj.calls k1 _ _ (xq l0_0 x13_1) t253 _ ?side1 ?side2 A12.out).mono ?_); (case side1 => repeat (first | exact (Kd.ka HR252_0.out HB.out) | (with_reducible refine Kd.ki ?_ _) | (with_reducible refine Kd.kj ?_ _) | (with_reducible refine Kd.C_drew ?_))); (case side2 => exact HC252_0.out); rintro e w15 ⟨rfl, hb⟩; refine ⟨_, rfl, ?_⟩; have n0_ := qb.mk (qz (g := gb251) (o := .cells #[.slice (some ad252) l0_0.length c0_0] 24 (0, 0)) (by (with_reducible repeat (first | refine qi ?_ _ | refine ql ?_ | refine qg ?_ _)); exact BK251.out) hb); have n1_ := qb.mk (qr (by repeat (first | (with_reducible first | exact HB.out | apply qc | apply qa | apply qd | refine qh ?_ GE251.out) | exact HB.out)) hb); clear BK251; clear HB; have BK251 := n0_; have HB := n1_; clear n0_ n1_; (try clear hb); (try clear hb2); (try clear hk); (try clear hi)))
          go_ret
          exact ⟨by first | rfl | (simp [qv, qu] <;> rfl) | (simp [*, qv, qu] <;> rfl), by repeat (first | (with_reducible first | exact HB.out | apply qc | apply qa | apply qd | refine qh ?_ GE251.out) | exact HB.out)⟩
      ·rw [if_neg c9] at H
       exact absurd H (by simp)
     ·rw [if_neg c8] at H
      exact absurd H (by simp)
    ·rw [if_neg c7] at H
     have c7b0 : decide (x13_1 < (l0_0.length : Int)) = false := decide_eq_false c7
     clear c7
     obtain rfl := Option.some.inj H
     go_wp2
     go_ret
     exact ⟨by first | rfl | (simp [qv, qu] <;> rfl) | (simp [*, qv, qu] <;> rfl), by repeat (first | (with_reducible first | exact HB.out | apply qc | apply qa | apply qd | refine qh ?_ GE251.out) | exact HB.out)⟩
end Go.Proofs.YtjhlinifnjoefaaDoor.C
end
section
namespace Go.Proofs.YtjhlinifnjoefaaDoor.C
open Go.RowKit Go.Proofs.YtjhlinifnjoefaaDoorW.PrintWords Go.Proofs.YtjhlinifnjoefaaDoorW.PrintLast Go.Proofs.YtjhlinifnjoefaaDoorW.PrintMore
attribute [local go_sem] xf xd xm xn z7 z6 xc xe
set_option linter.unusedVariables false
set_option linter.unusedSimpArgs false
end Go.Proofs.YtjhlinifnjoefaaDoor.C
end
section
namespace Go.Proofs.YtjhlinifnjoefaaDoor.C
open Go.RowKit Go.Proofs.YtjhlinifnjoefaaDoorW.PrintWords Go.Proofs.YtjhlinifnjoefaaDoorW.PrintLast Go.Proofs.YtjhlinifnjoefaaDoorW.PrintMore
attribute [local go_sem] xf xd xm xn z7 z6 xc xe
set_option linter.unusedVariables false
set_option linter.unusedSimpArgs false
end Go.Proofs.YtjhlinifnjoefaaDoor.C
end
section
namespace Go.Proofs.YtjhlinifnjoefaaDoor.Pl
open Go.RowKit Go.Proofs.YtjhlinifnjoefaaDoorW.PrintWords Go.Proofs.YtjhlinifnjoefaaDoor.C
set_option linter.unusedSimpArgs false
set_option linter.unusedVariables false
theorem Split_f (c : UInt8) (s : ByteArray) (h : s.size < 4294967281) : strings_Split.f s ⟨#[c]⟩ = some ((pieces c (L s)).map S) := by
 unfold strings_Split.f
 rw [if_pos ⟨(Nat.le_refl 1 : 1 ≤ (⟨#[c]⟩ : ByteArray).size), h⟩, splitB_pieces]
def val (acc : Int) : List UInt8 → Int
 | [] => acc
 | c :: r => val (10 * acc + ((c.toNat : Int) - 48)) r
def digs (l : List UInt8) : Bool := l.all fun c => decide (48 ≤ c.toNat) && decide (c.toNat ≤ 57)
theorem digs_cons (c : UInt8) (l : List UInt8) : digs (c :: l) = true ↔ (48 ≤ c.toNat ∧ c.toNat ≤ 57) ∧ digs l = true := by simp [digs]
theorem digs_append (a b : List UInt8) : digs (a ++ b) = true ↔ digs a = true ∧ digs b = true := by simp only [digs, List.all_append, Bool.and_eq_true]
theorem val_bounds : ∀ (l : List UInt8) (acc : Int), digs l = true → 0 ≤ acc → 0 ≤ val acc l
 | [], acc, _, h => h
 | c :: r, acc, hd, h => by
  have hc := (digs_cons c r).1 hd
  exact val_bounds r _ hc.2 (by omega)
def okArc (l : List UInt8) : Bool := decide (l.length ≠ 0) && decide (l.length ≤ 10) && !(decide (l.headD 0 = 48) && decide (1 < l.length)) && digs l && decide (val 0 l ≤ 2147483647)
theorem kk (l : List UInt8) : okArc l = true ↔ l.length ≠ 0 ∧ l.length ≤ 10 ∧ ¬ (l.headD 0 = 48 ∧ 1 < l.length) ∧ digs l = true ∧ val 0 l ≤ 2147483647 := by
 simp only [okArc, Bool.and_eq_true, decide_eq_true_eq, Bool.not_eq_true', Bool.and_eq_false_iff, decide_eq_false_iff_not, and_assoc]
 constructor
 ·rintro ⟨h1, h2, h3, h4, h5⟩
  exact ⟨h1, h2, fun h => by rcases h3 with h3 | h3; exact h3 h.1; exact h3 h.2, h4, h5⟩
 ·rintro ⟨h1, h2, h3, h4, h5⟩
  refine ⟨h1, h2, ?_, h4, h5⟩
  by_cases h : l.headD 0 = 48
  ·exact Or.inr fun h' => h3 ⟨h, h'⟩
  ·exact Or.inl h
theorem pow10_le (i : Nat) (h : i ≤ 10) : (10 : Int) ^ i ≤ 10000000000 := by
 have : ∀ i : Fin 11, (10 : Int) ^ i.val ≤ 10000000000 := by decide
 exact this ⟨i, by omega⟩
theorem arc_l0 (s : ByteArray) (hs : s.size ≤ 10) : ∀ (rest : List UInt8) (i : Nat) (acc : Int), (L s).drop i = rest → i ≤ s.size → 0 ≤ acc → acc < 10 ^ i →
  Ev (fun k => zn.l0 k s acc i) (if digs rest = true ∧ val acc rest ≤ 2147483647 then val acc rest else -1)
 | [], i, acc, h, hi, h0, h1 => by
  have hn := at_nil h
  refine Ev.step (fun k => by rw [zn.l0]) ?_
  refine Ev.neg (by omega) ?_
  by_cases hv : acc > 2147483647
  ·refine Ev.pos hv ((Ev.now _).to ?_)
   rw [if_neg]
   simp only [val]; omega
  ·refine Ev.neg hv ((Ev.now _).to ?_)
   rw [if_pos ⟨rfl, by simp only [val]; omega⟩]
   rfl
 | c :: r, i, acc, h, hi, h0, h1 => by
  obtain ⟨hl, hb, hr⟩ := at_cons h
  have hp := pow10_le i (by omega)
  have hc : c.toNat < 256 := c.toNat_lt
  refine Ev.step (fun k => by rw [zn.l0]) ?_
  refine Ev.pos (by omega) (Ev.pos (by omega) ?_)
  rw [hb]
  by_cases c1 : c.toNat < 48
  ·refine Ev.pos (by omega) ((Ev.now _).to ?_)
   rw [if_neg]
   rw [digs_cons]; omega
  ·refine Ev.neg (by omega) ?_
   by_cases c2 : 57 < c.toNat
   ·refine Ev.pos (by omega) ((Ev.now _).to ?_)
    rw [if_neg]
    rw [digs_cons]; omega
   ·refine Ev.neg (by omega) ?_
    have e1 : ((c.toNat : Int) - 48) % 256 = (c.toNat : Int) - 48 := by omega
    rw [e1, w64 (by omega : -9223372036854775808 ≤ 10 * acc) (by omega), w64 (n := 10 * acc + _) (by omega) (by omega), w64 (n := (i : Int) + 1) (by omega) (by omega)]
    have ih := arc_l0 s hs r (i + 1) (10 * acc + ((c.toNat : Int) - 48)) hr (by omega) (by omega) (by
     rw [Int.pow_succ]; omega)
    refine ih.to ?_
    have ed : digs (c :: r) = digs r := by
     rw [Bool.eq_iff_iff, digs_cons]
     exact ⟨fun h => h.2, fun h => ⟨by omega, h⟩⟩
    rw [ed]
    rfl
theorem arc_f (s : ByteArray) : Ev (fun k => zn.f k s) (if okArc (L s) = true then val 0 (L s) else -1) := by
 unfold zn.f
 have hsz := size_L s
 by_cases h0 : L s = []
 ·refine Ev.pos (by rw [kp, h0]) ?_
  refine Ev.step (fun k => by rw [zn.j0]) (Ev.pos rfl ((Ev.now _).to ?_))
  rw [if_neg]
  rw [kk, h0]
  simp
 refine Ev.neg (by rw [kp]; exact h0) ?_
 by_cases h1 : (s.size : Int) > 10
 ·refine Ev.pos h1 ?_
  refine Ev.step (fun k => by rw [zn.j0]) (Ev.pos rfl ((Ev.now _).to ?_))
  rw [if_neg]
  rw [kk]
  omega
 refine Ev.neg h1 ?_
 obtain ⟨c, r, hcr⟩ : ∃ c r, L s = c :: r := by
  cases h : L s with
  | nil => exact absurd h h0
  | cons c r => exact ⟨c, r, rfl⟩
 have hz : (L s).drop 0 = c :: r := hcr
 obtain ⟨hl, hb, _⟩ := at_cons hz
 refine Ev.pos (by omega) ?_
 have hb' : bt s 0 = c.toNat := hb
 rw [hb']
 have key : ∀ b : Bool, (b = true ↔ (c = 48 ∧ 1 < (L s).length)) → Ev (fun k => zn.j0 k s b) (if okArc (L s) = true then val 0 (L s) else -1) := by
  intro b hbb
  refine Ev.step (fun k => by rw [zn.j0]) ?_
  by_cases hbt : b = true
  ·refine Ev.pos hbt ((Ev.now _).to ?_)
   rw [if_neg]
   rw [kk]
   rintro ⟨_, _, h, _⟩
   exact h ⟨by rw [hcr]; exact (hbb.1 hbt).1, (hbb.1 hbt).2⟩
  ·refine Ev.neg hbt ?_
   have hl0 := arc_l0 s (by omega) (L s) 0 0 rfl (by omega) (by omega) (by decide)
   refine Ev.to hl0 ?_
   have hnn : ¬ ((L s).headD 0 = 48 ∧ 1 < (L s).length) := fun h => hbt (hbb.2 ⟨by rw [hcr] at h; exact h.1, h.2⟩)
   by_cases hd : digs (L s) = true ∧ val 0 (L s) ≤ 2147483647
   ·rw [if_pos hd, if_pos]
    rw [kk]
    exact ⟨by rw [hcr]; simp, by omega, hnn, hd.1, hd.2⟩
   ·rw [if_neg hd, if_neg]
    rw [kk]
    rintro ⟨_, _, _, h4, h5⟩
    exact hd ⟨h4, h5⟩
 by_cases hc : (c.toNat : Int) = 48
 ·refine Ev.pos hc (key _ ?_)
  have : c = 48 := UInt8.toNat_inj.1 (by simpa using (by omega : c.toNat = 48))
  rw [decide_eq_true_eq]
  constructor
  ·intro h; exact ⟨this, by omega⟩
  ·intro h; have := h.2; omega
 ·refine Ev.neg hc (key _ ?_)
  constructor
  ·intro h; cases h
  ·rintro ⟨rfl, _⟩; exact absurd rfl hc
def rootOk (l : List Int) : Bool := decide (l.getD 0 0 ≤ 1) && decide (l.getD 1 0 ≤ 39) || decide (l.getD 0 0 = 2)
theorem root_f (a b : Int) : oid_root.f a b = some (decide (a ≤ 1) && decide (b ≤ 39) || decide (a = 2)) := by
 unfold oid_root.f
 by_cases h1 : a ≤ 1
 ·by_cases h2 : b ≤ 39
  ·simp [h1, h2]
  ·have : ¬ a = 2 := by omega
   simp [h1, h2, this]
 ·by_cases h3 : a = 2 <;> simp [h1, h3]
theorem oid_l0 (xs : List (List UInt8)) (hx : xs.length < 1000) : ∀ (n i : Nat) (out : List Int), i + n = xs.length → out.length = i →
  Ev (fun k => zp.l0 k out (xs.map S) (xs.length : Int) i) (if (xs.drop i).all okArc = true then (if 2 ≤ xs.length then (if rootOk (out ++ (xs.drop i).map (val 0)) = true then out ++ (xs.drop i).map (val 0) else []) else []) else []) ∨ xs.length < 2
 | 0, i, out, hn, ho => by
  by_cases h2 : xs.length < 2
  ·exact Or.inr h2
  refine Or.inl ?_
  rw [List.drop_eq_nil_of_le (by omega)]
  rw [if_pos (by simp), if_pos (by omega)]
  refine Ev.step (fun k => by rw [zp.l0]) (Ev.neg (by omega) (Ev.pos (by omega) (Ev.pos (by omega) ?_)))
  rw [root_f]
  simp only [Option.bind_some]
  have e : (decide (rd out 0 ≤ 1) && decide (rd out 1 ≤ 39) || decide (rd out 0 = 2)) = rootOk (out ++ ([] : List (List UInt8)).map (val 0)) := by
   simp [rootOk, rd]
  rw [e]
  by_cases hr : rootOk (out ++ ([] : List (List UInt8)).map (val 0)) = true
  ·refine Ev.pos hr ((Ev.now _).to ?_)
   rw [if_pos hr]
   simp
  ·refine Ev.neg hr ((Ev.now _).to ?_)
   rw [if_neg hr]
 | n + 1, i, out, hn, ho => by
  by_cases h2 : xs.length < 2
  ·exact Or.inr h2
  refine Or.inl ?_
  have hi : i < xs.length := by omega
  have hd : xs.drop i = xs[i] :: xs.drop (i + 1) := List.drop_eq_getElem_cons hi
  have hrd : rdOf ByteArray.empty (xs.map S) i = S xs[i] := by
   unfold rdOf
   rw [List.getD_eq_getElem?_getD]
   simp [hi]
  refine Ev.step (fun k => by rw [zp.l0]) (Ev.pos (by omega) (Ev.pos (by omega) (Ev.pos (by rw [List.length_map]; omega) ?_)))
  rw [hrd]
  refine Ev.bind (arc_f (S xs[i])) ?_
  rw [L_S, hd]
  by_cases ha : okArc xs[i] = true
  ·rw [if_pos ha]
   have hv := val_bounds xs[i] 0 ((kk _).1 ha).2.2.2.1 (by omega)
   refine Ev.neg (by omega) (Ev.pos (by omega) ?_)
   rw [w64 (n := (i : Int) + 1) (by omega) (by omega)]
   rcases oid_l0 xs hx n (i + 1) (out ++ [val 0 xs[i]]) (by omega) (by simp [ho]) with ih | ih
   ·refine Ev.to ih ?_
    simp only [List.all_cons, List.map_cons, List.append_assoc, List.singleton_append, ha, Bool.true_and]
   ·omega
  ·rw [if_neg ha]
   refine Ev.pos (by omega) ((Ev.now _).to ?_)
   rw [if_neg]
   simp only [List.all_cons, Bool.eq_false_iff.2 ha, Bool.false_and]
   decide
def okOid (l : List UInt8) : Bool := decide (2 ≤ (pieces 46 l).length) && decide ((pieces 46 l).length ≤ 12) && (pieces 46 l).all okArc && rootOk ((pieces 46 l).map (val 0))
theorem arcs_f (s : ByteArray) (h : s.size < 4294967281) : Ev (fun k => zp.f k s) (if okOid (L s) = true then (pieces 46 (L s)).map (val 0) else []) := by
 unfold zp.f
 refine Ev.bnd (Split_f 46 s h) ?_
 have hlen : ((pieces 46 (L s)).map S).length = (pieces 46 (L s)).length := List.length_map ..
 by_cases h2 : (pieces 46 (L s)).length < 2
 ·refine Ev.pos (by omega) (Ev.step (fun k => by rw [zp.j0]) (Ev.pos rfl ((Ev.now _).to ?_)))
  rw [if_neg]
  simp only [okOid, Bool.and_eq_true, decide_eq_true_eq]
  omega
 refine Ev.neg (by omega) (Ev.step (fun k => by rw [zp.j0]) ?_)
 by_cases h12 : 12 < (pieces 46 (L s)).length
 ·refine Ev.pos (by rw [decide_eq_true_eq]; omega) ((Ev.now _).to ?_)
  rw [if_neg]
  simp only [okOid, Bool.and_eq_true, decide_eq_true_eq]
  omega
 ·refine Ev.neg (by rw [decide_eq_true_eq]; omega) ?_
  rw [hlen]
  rcases oid_l0 (pieces 46 (L s)) (by omega) (pieces 46 (L s)).length 0 [] (by omega) rfl with ih | ih
  ·refine Ev.to ih ?_
   simp only [List.drop_zero, List.nil_append]
   have a1 : 2 ≤ (pieces 46 (L s)).length := by omega
   have a2 : (pieces 46 (L s)).length ≤ 12 := by omega
   simp only [okOid, a1, a2, decide_true, Bool.true_and, if_true]
   by_cases hA : (pieces 46 (L s)).all okArc = true
   ·rw [if_pos hA]
    simp only [hA, Bool.true_and]
   ·rw [if_neg hA]
    rw [if_neg]
    simp [hA]
  ·omega
theorem oid_Valid_f (s : ByteArray) (h : s.size < 4294967281) : Ev (fun k => zv.f k s) (okOid (L s)) := by
 unfold zv.f
 refine Ev.bind (f := fun _ l => some (!l.isEmpty)) (arcs_f s h) ((Ev.now _).to ?_)
 by_cases ho : okOid (L s) = true
 ·rw [if_pos ho, ho]
  have hne := pieces_ne 46 (L s)
  cases hp : pieces 46 (L s) with
  | nil => exact absurd hp hne
  | cons p ps => rfl
 ·rw [if_neg ho]
  simp [ho]
end Go.Proofs.YtjhlinifnjoefaaDoor.Pl
end
section
namespace Go.Proofs.YtjhlinifnjoefaaDoor.Pl
open Go.RowKit Go.Proofs.YtjhlinifnjoefaaDoorW.PrintWords Go.Proofs.YtjhlinifnjoefaaDoor.C
set_option linter.unusedSimpArgs false
set_option linter.unusedVariables false
def refEnd (l : List Int) : List Int × Bool := if 2 ≤ l.length ∧ rootOk l = true then (l, true) else ([], false)
def refFin (out : List Int) (ps : List (List UInt8)) : List Int × Bool := if ps.all okArc = true ∧ out.length + ps.length ≤ 12 then refEnd (out ++ ps.map (val 0)) else ([], false)
theorem arcs_end (out : List Int) (h : ∀ x ∈ out, (0 : Int) ≤ x) : Ev (fun k => if (out.length : Int) < 2 then qk.j4 k out true else (if 0 < (out.length : Int) then (if rd out 0 > 2 then qk.j4 k out true else (if rd out 0 < 2 then (if 1 < (out.length : Int) then qk.j4 k out (decide (rd out 1 > 39)) else none) else qk.j4 k out false)) else none)) (refEnd out) := by
 have jt : Ev (fun k => qk.j4 k out true) ([], false) := Ev.step (fun k => by rw [qk.j4]) (Ev.pos rfl (Ev.now _))
 have jf : Ev (fun k => qk.j4 k out false) (out, true) := Ev.step (fun k => by rw [qk.j4]) (Ev.neg (by decide) (Ev.now _))
 by_cases h2 : out.length < 2
 ·refine Ev.pos (by omega) (jt.to ?_)
  unfold refEnd
  rw [if_neg]
  omega
 refine Ev.neg (by omega) (Ev.pos (by omega) ?_)
 have e0 : rd out 0 = out.getD 0 0 := rfl
 have e1 : rd out 1 = out.getD 1 0 := rfl
 have hp : 0 ≤ out.getD 0 0 := by
  cases out with
  | nil => simp
  | cons a t => exact h a (List.mem_cons_self ..)
 rw [e0, e1]
 have hro : rootOk out = true ↔ (out.getD 0 0 ≤ 1 ∧ out.getD 1 0 ≤ 39) ∨ out.getD 0 0 = 2 := by
  simp [rootOk]
 by_cases c0 : out.getD 0 0 > 2
 ·refine Ev.pos c0 (jt.to ?_)
  unfold refEnd
  rw [if_neg]
  rw [hro]; omega
 ·refine Ev.neg c0 ?_
  by_cases c1 : out.getD 0 0 < 2
  ·refine Ev.pos c1 (Ev.pos (by omega) ?_)
   by_cases c2 : out.getD 1 0 > 39
   ·simp only [c2, decide_true]
    refine jt.to ?_
    unfold refEnd
    rw [if_neg]
    rw [hro]; omega
   ·simp only [c2, decide_false]
    refine jf.to ?_
    unfold refEnd
    rw [if_pos]
    rw [hro]; omega
  ·refine Ev.neg c1 (jf.to ?_)
   unfold refEnd
   rw [if_pos]
   rw [hro]; omega
theorem arcs_l1 (s : ByteArray) (out : List Int) (x6 : Int) (d : ByteArray) (hd : d.size ≤ 10) (r : List Int × Bool) : ∀ (rest : List UInt8) (i : Nat) (acc : Int), (L d).drop i = rest → digs rest = true → i ≤ d.size → 0 ≤ acc → acc < 10 ^ i →
  (if val acc rest ≤ 2147483647 then Ev (fun k => if out.length < 17592186044416 then qk.l0 k s (out ++ [val acc rest]) (wrap64 (x6 + 1)) (wrap64 (x6 + 1)) else none) r else r = ([], false)) →
  Ev (fun k => qk.l1 k s out x6 d acc i) r
 | [], i, acc, h, hg, hi, h0, h1, hr => by
  have hn := at_nil h
  refine Ev.step (fun k => by rw [qk.l1]) (Ev.neg (by omega) ?_)
  change if acc ≤ 2147483647 then Ev (fun k => if out.length < 17592186044416 then qk.l0 k s (out ++ [acc]) (wrap64 (x6 + 1)) (wrap64 (x6 + 1)) else none) r else r = ([], false) at hr
  by_cases hv : acc > 2147483647
  ·rw [if_neg (by omega)] at hr
   rw [hr]
   exact Ev.pos hv (Ev.now _)
  ·rw [if_pos (by omega)] at hr
   exact Ev.neg hv hr
 | c :: t, i, acc, h, hg, hi, h0, h1, hr => by
  obtain ⟨hl, hb, ht⟩ := at_cons h
  have hp := pow10_le i (by omega)
  have hc := (digs_cons c t).1 hg
  refine Ev.step (fun k => by rw [qk.l1]) (Ev.pos (by omega) (Ev.pos (by omega) ?_))
  rw [hb]
  have e1 : ((c.toNat : Int) - 48) % 256 = (c.toNat : Int) - 48 := by omega
  rw [e1, w64 (by omega : -9223372036854775808 ≤ 10 * acc) (by omega), w64 (n := 10 * acc + _) (by omega) (by omega), w64 (n := (i : Int) + 1) (by omega) (by omega)]
  exact arcs_l1 s out x6 d hd r t (i + 1) (10 * acc + ((c.toNat : Int) - 48)) ht hc.2 (by omega) (by omega) (by rw [Int.pow_succ]; omega) hr
theorem arcs_piece (s : ByteArray) (hs : s.size < 4294967281) (out : List Int) (a i : Nat) (cur : List UInt8) (r : List Int × Bool) (ha : a ≤ i) (hi : i ≤ s.size) (ho : out.length ≤ 12)
  (hcur : ((L s).drop a).take (i - a) = cur) (hd : digs cur = true)
  (hr : if okArc cur = true ∧ out.length ≠ 12 then Ev (fun k => qk.l0 k s (out ++ [val 0 cur]) ((i + 1 : Nat) : Int) ((i + 1 : Nat) : Int)) r else r = ([], false)) :
  Ev (fun k => qk.j1 k s out a i false) r := by
 refine Ev.step (fun k => by rw [qk.j1]) (Ev.neg (by decide) (Ev.pos (by omega) (Ev.pos (by omega) (Ev.pos (by omega) ?_))))
 have hLd : L (s.extract (a : Int).toNat (i : Int).toNat) = cur := by rw [L_extract]; exact hcur
 have hsz : (s.extract (a : Int).toNat (i : Int).toNat).size = cur.length := by rw [size_L, hLd]
 generalize hD : s.extract (a : Int).toNat (i : Int).toNat = D at hLd hsz
 rw [hsz]
 have jt : ¬ (okArc cur = true ∧ out.length ≠ 12) → Ev (fun k => qk.j2 k s out i D true) r := by
  intro hn
  rw [if_neg hn] at hr
  rw [hr]
  exact Ev.step (fun k => by rw [qk.j2]) (Ev.pos rfl (Ev.now _))
 have jf : ¬ cur.length = 0 → cur.length ≤ 10 → ¬ (cur.headD 0 = 48 ∧ 1 < cur.length) → Ev (fun k => qk.j2 k s out i D ((out.length : Int) == 12)) r := by
  intro n0 n10 nh
  by_cases h12 : out.length = 12
  ·rw [h12]
   exact jt (by omega)
  ·have e : ((out.length : Int) == 12) = false := by rw [beq_eq_false_iff_ne]; omega
   rw [e]
   refine Ev.step (fun k => by rw [qk.j2]) (Ev.neg (by decide) ?_)
   refine arcs_l1 s out i D (by omega) r cur 0 0 (by rw [hLd]; rfl) hd (by omega) (by omega) (by decide) ?_
   by_cases hv : val 0 cur ≤ 2147483647
   ·rw [if_pos hv]
    rw [if_pos ⟨(kk _).2 ⟨n0, n10, nh, hd, hv⟩, h12⟩] at hr
    refine Ev.pos (by omega) ?_
    rw [w64 (n := (i : Int) + 1) (by omega) (by omega)]
    exact hr
   ·rw [if_neg hv]
    rw [if_neg] at hr
    ·exact hr
    ·rintro ⟨h, _⟩
     exact hv ((kk _).1 h).2.2.2.2
 by_cases h0 : cur.length = 0
 ·exact Ev.pos (by omega) (jt (by rw [kk]; omega))
 refine Ev.neg (by omega) ?_
 by_cases h10 : 10 < cur.length
 ·exact Ev.pos (by omega) (jt (by rw [kk]; omega))
 refine Ev.neg (by omega) ?_
 obtain ⟨c, t, hct⟩ : ∃ c t, cur = c :: t := by
  cases cur with
  | nil => exact absurd rfl h0
  | cons c t => exact ⟨c, t, rfl⟩
 have hb : bt D 0 = c.toNat := (at_cons (s := D) (i := 0) (by rw [hLd, hct]; rfl)).2.1
 by_cases h1 : 1 < cur.length
 ·refine Ev.pos (by omega) (Ev.pos (by omega) ?_)
  rw [hb]
  by_cases hc : (c.toNat : Int) = 48
  ·have : c = 48 := UInt8.toNat_inj.1 (by simpa using (by omega : c.toNat = 48))
   refine Ev.pos hc (jt ?_)
   rintro ⟨h, _⟩
   exact ((kk _).1 h).2.2.1 ⟨by rw [hct]; exact this, h1⟩
  ·refine Ev.neg hc (jf h0 (by omega) ?_)
   rintro ⟨h, _⟩
   rw [hct] at h
   have h' : c = 48 := h
   rw [h'] at hc
   exact hc rfl
 ·exact Ev.neg (by omega) (jf h0 (by omega) (by omega))
theorem okArc_digs {l : List UInt8} (h : okArc l = true) : digs l = true := ((kk l).1 h).2.2.2.1
theorem refFin_cons (out : List Int) (p : List UInt8) (ps : List (List UInt8)) (ho : out.length ≤ 12) :
  refFin out (p :: ps) = if okArc p = true ∧ out.length ≠ 12 then refFin (out ++ [val 0 p]) ps else ([], false) := by
 unfold refFin
 by_cases h : okArc p = true ∧ out.length ≠ 12
 ·rw [if_pos h]
  simp only [List.all_cons, h.1, Bool.true_and, List.length_append, List.length_cons, List.length_nil, List.map_cons, List.append_assoc, List.singleton_append]
  have e : (out.length + (ps.length + 1) ≤ 12) ↔ (out.length + (0 + 1) + ps.length ≤ 12) := by omega
  simp only [e]
 ·rw [if_neg h, if_neg]
  rintro ⟨h1, h2⟩
  simp only [List.all_cons, Bool.and_eq_true, List.length_cons] at h1 h2
  exact h ⟨h1.1, by omega⟩
theorem arcs_l0 (s : ByteArray) (hs : s.size < 4294967281) : ∀ (rest : List UInt8) (i a : Nat) (out : List Int) (cur : List UInt8), (L s).drop i = rest → a ≤ i → i ≤ s.size → out.length ≤ 12 → (∀ x ∈ out, (0 : Int) ≤ x) →
  ((L s).drop a).take (i - a) = cur → digs cur = true → Ev (fun k => qk.l0 k s out a i) (refFin out ((cur ++ (pieces 46 rest).headD []) :: (pieces 46 rest).tail))
 | [], i, a, out, cur, h, ha, hi, ho, hp, hcur, hd => by
  have hn := at_nil h
  refine Ev.step (fun k => by rw [qk.l0]) (Ev.pos (by omega) (Ev.neg (by omega) ?_))
  refine arcs_piece s hs out a i cur _ ha hi ho hcur hd ?_
  have ep : cur ++ (pieces 46 []).headD [] = cur := by simp [pieces]
  rw [ep, refFin_cons out cur _ ho]
  by_cases hc : okArc cur = true ∧ out.length ≠ 12
  ·rw [if_pos hc, if_pos hc]
   have hv := val_bounds cur 0 hd (by omega)
   refine Ev.step (fun k => by rw [qk.l0]) (Ev.neg (by omega) ?_)
   refine (arcs_end (out ++ [val 0 cur]) ?_).to ?_
   ·intro x hx
    rcases List.mem_append.1 hx with hx | hx
    ·exact hp x hx
    ·rw [List.mem_singleton.1 hx]; exact hv
   ·unfold refFin
    rw [if_pos ⟨rfl, by simp [pieces]; omega⟩]
    simp [pieces]
  ·rw [if_neg hc, if_neg hc]
 | c :: t, i, a, out, cur, h, ha, hi, ho, hp, hcur, hd => by
  obtain ⟨hl, hb, ht⟩ := at_cons h
  refine Ev.step (fun k => by rw [qk.l0]) (Ev.pos (by omega) (Ev.pos (by omega) (Ev.pos (by omega) ?_)))
  rw [hb]
  by_cases hc : c = 46
  ·subst hc
   have e : (((46 : UInt8).toNat : Int) != 46) = false := rfl
   rw [e]
   refine arcs_piece s hs out a i cur _ ha hi ho hcur hd ?_
   have ep : pieces 46 (46 :: t) = [] :: pieces 46 t := by rw [pieces, if_pos rfl]
   rw [ep]
   have e2 : cur ++ ([] :: pieces 46 t).headD [] = cur := by simp
   rw [e2, refFin_cons out cur _ ho]
   by_cases hk : okArc cur = true ∧ out.length ≠ 12
   ·rw [if_pos hk, if_pos hk]
    have hv := val_bounds cur 0 hd (by omega)
    have ih := arcs_l0 s hs t (i + 1) (i + 1) (out ++ [val 0 cur]) [] ht (by omega) (by omega) (by simp; omega) (by
     intro x hx
     rcases List.mem_append.1 hx with hx | hx
     ·exact hp x hx
     ·rw [List.mem_singleton.1 hx]; exact hv) (by simp) rfl
    refine ih.to ?_
    rw [List.nil_append, pieces_eta]
    rfl
   ·rw [if_neg hk, if_neg hk]
  ·have hc' : ¬ (c.toNat : Int) = 46 := fun e => hc (UInt8.toNat_inj.1 (by simpa using (by omega : c.toNat = 46)))
   have e : ((c.toNat : Int) != 46) = true := by rw [bne_iff_ne]; exact hc'
   rw [e]
   have ep : pieces 46 (c :: t) = (c :: (pieces 46 t).headD []) :: (pieces 46 t).tail := by rw [pieces, if_neg hc]
   rw [ep]
   refine Ev.step (fun k => by rw [qk.j1]) (Ev.pos rfl (Ev.pos (by omega) (Ev.pos (by omega) ?_)))
   rw [hb]
   have bad : ¬ (48 ≤ c.toNat ∧ c.toNat ≤ 57) → ([], false) = refFin out ((cur ++ ((c :: (pieces 46 t).headD []) :: (pieces 46 t).tail).headD []) :: ((c :: (pieces 46 t).headD []) :: (pieces 46 t).tail).tail) := by
    intro hb
    rw [refFin_cons out _ _ ho, if_neg]
    rintro ⟨h, _⟩
    have h := okArc_digs h
    rw [digs_append] at h
    exact hb ((digs_cons c _).1 h.2).1
   by_cases h1 : (c.toNat : Int) < 48
   ·exact Ev.pos h1 ((Ev.now _).to (bad (by omega)))
   refine Ev.neg h1 ?_
   by_cases h2 : (c.toNat : Int) > 57
   ·exact Ev.pos h2 ((Ev.now _).to (bad (by omega)))
   refine Ev.neg h2 ?_
   rw [w64 (n := (i : Int) + 1) (by omega) (by omega)]
   have hcur' : ((L s).drop a).take (i + 1 - a) = cur ++ [c] := by
    have e3 : i + 1 - a = (i - a) + 1 := by omega
    rw [e3, List.take_add_one, hcur]
    have : ((L s).drop a)[i - a]? = some c := by
     rw [List.getElem?_drop, show a + (i - a) = i by omega]
     have := congrArg (fun l => l[0]?) h
     simpa [List.getElem?_drop] using this
    rw [this]; rfl
   have ih := arcs_l0 s hs t (i + 1) a out (cur ++ [c]) ht (by omega) (by omega) ho hp hcur' (by
    rw [digs_append]
    exact ⟨hd, (digs_cons c []).2 ⟨by omega, rfl⟩⟩)
   refine ih.to ?_
   simp
theorem ValidOID_f (s : ByteArray) (h : s.size < 4294967281) : Ev (fun k => zb.f k s) (okOid (L s)) := by
 unfold zb.f
 refine Ev.bind (f := fun _ l => some l.2) (show Ev (fun k => qk.f k s) _ from arcs_l0 s h (L s) 0 0 [] [] rfl (by omega) (by omega) (by simp) (by simp) (by simp) rfl) ((Ev.now _).to ?_)
 rw [List.nil_append, pieces_eta]
 unfold refFin refEnd okOid
 simp only [List.length_nil, Nat.zero_add, List.nil_append, List.length_map]
 by_cases h1 : (pieces 46 (L s)).all okArc = true <;> by_cases h2 : (pieces 46 (L s)).length ≤ 12 <;> by_cases h3 : 2 ≤ (pieces 46 (L s)).length <;> by_cases h4 : rootOk ((pieces 46 (L s)).map (val 0)) = true <;> simp [h1, h2, h3, h4]
end Go.Proofs.YtjhlinifnjoefaaDoor.Pl
end
section
namespace Go.Proofs.YtjhlinifnjoefaaDoor.Pl
open Go.RowKit Go.Proofs.YtjhlinifnjoefaaDoorW.PrintWords Go.Proofs.YtjhlinifnjoefaaDoor.C
set_option linter.unusedSimpArgs false
set_option linter.unusedVariables false
theorem get_bt (s : ByteArray) (i : Nat) (h : i < s.size) : ((s.get! i).toNat : Int) = bt s i := by
 unfold bt
 rw [dif_pos (show (i : Int).toNat < s.size from h)]
 have : s.get! i = s[i] := by
  cases s
  rename_i d
  simp only [ByteArray.get!]
  exact getElem!_pos d i h
 rw [this]
 rfl
theorem lt_of_bt (s : ByteArray) (i : Nat) (h : i < s.size) : ∃ b : Nat, b < 256 ∧ (s.get! i).toNat = b ∧ bt s i = b :=
 ⟨(s.get! i).toNat, UInt8.toNat_lt _, rfl, (get_bt s i h).symm⟩
theorem l1_more (s : ByteArray) (pos n least v : Int) (j b : Nat) (r : Bool) (hb : bt s (pos + j) = b) (h0 : 0 ≤ pos) (hn : n ≤ 3) (hj : (j : Int) ≤ n) (hl : pos + j < s.size) (hs : s.size < 4294967281) (hc : b / 64 = 2) (hv0 : 0 ≤ v) (hv : v < 100000000)
  (h : Ev (fun k => qe.l1 k s pos n least (64 * v + (b % 64 : Nat)) ((j + 1 : Nat) : Int)) r) : Ev (fun k => qe.l1 k s pos n least v j) r := by
 have e1 : wrap64 (pos + j) = pos + j := w64 (by omega) (by omega)
 refine Ev.step (fun k => by rw [qe.l1]) (Ev.pos hj (Ev.pos (by omega) (Ev.pos (by omega) (Ev.pos ?_ ?_))))
 ·rw [e1, hb, Int.tdiv_eq_ediv_of_nonneg (by omega)]
  omega
 ·rw [e1, hb]
  have e2 : Int.tmod (b : Int) 64 = ((b % 64 : Nat) : Int) := by
   rw [Int.tmod_eq_emod_of_nonneg (by omega)]; omega
  rw [e2, w64 (n := 64 * v) (by omega) (by omega), w64 (n := ((b % 64 : Nat) : Int)) (by omega) (by omega), w64 (n := 64 * v + _) (by omega) (by omega), w64 (n := (j : Int) + 1) (by omega) (by omega)]
  exact h
theorem l1_bad (s : ByteArray) (pos n least v : Int) (j b : Nat) (hb : bt s (pos + j) = b) (h0 : 0 ≤ pos) (hn : n ≤ 3) (hj : (j : Int) ≤ n) (hl : pos + j < s.size) (hs : s.size < 4294967281) (h256 : b < 256) (hc : ¬ b / 64 = 2) :
  Ev (fun k => qe.l1 k s pos n least v j) false := by
 have e1 : wrap64 (pos + j) = pos + j := w64 (by omega) (by omega)
 refine Ev.step (fun k => by rw [qe.l1]) (Ev.pos hj (Ev.pos (by omega) (Ev.pos (by omega) (Ev.neg ?_ (Ev.now _)))))
 rw [e1, hb, Int.tdiv_eq_ediv_of_nonneg (by omega)]
 omega
theorem l1_end (s : ByteArray) (pos n least v : Int) (j : Nat) (r : Bool) (hj : (j : Int) = n + 1) (h0 : 0 ≤ pos) (hn0 : 0 ≤ n) (hn : n ≤ 3) (hl : pos ≤ s.size) (hs : s.size < 4294967281) (h : Ev (fun k => qe.l0 k s (pos + (n + 1))) r) :
  Ev (fun k => qe.l1 k s pos n least v j) (if v < least ∨ 1114111 < v ∨ (55296 ≤ v ∧ v < 57344) then false else r) := by
 have jt : Ev (fun k => qe.j6 k s pos n true) false := Ev.step (fun k => by rw [qe.j6]) (Ev.pos rfl (Ev.now _))
 have jf : Ev (fun k => qe.j6 k s pos n false) r := Ev.step (fun k => by rw [qe.j6]) (Ev.neg (by decide) (by
  rw [w64 (n := n + 1) (by omega) (by omega), w64 (n := pos + (n + 1)) (by omega) (by omega)]; exact h))
 refine Ev.step (fun k => by rw [qe.l1]) (Ev.neg (by omega) ?_)
 by_cases c1 : v < least
 ·exact Ev.pos c1 (jt.to (by rw [if_pos (Or.inl c1)]))
 refine Ev.neg c1 ?_
 by_cases c2 : v > 1114111
 ·exact Ev.pos c2 (jt.to (by rw [if_pos (Or.inr (Or.inl c2))]))
 refine Ev.neg c2 ?_
 by_cases c3 : v ≥ 55296
 ·refine Ev.pos c3 ?_
  by_cases c4 : v < 57344
  ·rw [show decide (v < 57344) = true from decide_eq_true c4]
   exact jt.to (by rw [if_pos (Or.inr (Or.inr ⟨c3, c4⟩))])
  ·rw [show decide (v < 57344) = false from decide_eq_false c4]
   exact jf.to (by rw [if_neg (by omega)])
 ·exact Ev.neg c3 (jf.to (by rw [if_neg (by omega)]))
theorem mask1 : ∀ n : Nat, n < 256 → Go.bits .and .i64 (wrap64 (n : Int)) (wrap64 ((shl .i64 1 (wrap64 (6 - 1))) - 1)) = ((n % 32 : Nat) : Int) := by decide +kernel
theorem mask2 : ∀ n : Nat, n < 256 → Go.bits .and .i64 (wrap64 (n : Int)) (wrap64 ((shl .i64 1 (wrap64 (6 - 2))) - 1)) = ((n % 16 : Nat) : Int) := by decide +kernel
theorem mask3 : ∀ n : Nat, n < 256 → Go.bits .and .i64 (wrap64 (n : Int)) (wrap64 ((shl .i64 1 (wrap64 (6 - 3))) - 1)) = ((n % 8 : Nat) : Int) := by decide +kernel
theorem dec_pref (s : ByteArray) (pos : Nat) (r : List UInt8) (h : (L s).drop pos = 239 :: 191 :: 189 :: r) : Utf8.decode s pos = (65533, 3) := by
 obtain ⟨l0, b0, h1⟩ := at_cons h
 obtain ⟨l1, b1, h2⟩ := at_cons h1
 obtain ⟨l2, b2, h3⟩ := at_cons h2
 have g0 : (s.get! (pos + 0)).toNat = 239 := by have := get_bt s pos l0; rw [b0] at this; exact Int.ofNat_inj.1 this
 have g1 : (s.get! (pos + 1)).toNat = 191 := by have := get_bt s (pos + 1) l1; rw [b1] at this; exact Int.ofNat_inj.1 this
 have g2 : (s.get! (pos + 2)).toNat = 189 := by have := get_bt s (pos + 1 + 1) l2; rw [b2] at this; exact Int.ofNat_inj.1 this
 unfold Utf8.decode
 simp only [g0, g1, g2, l1, show pos + 2 < s.size from l2]
 rfl
theorem pref_drop (s : ByteArray) (pos : Nat) (h : Lib.hasPrefix (s.extract pos s.size).data.toList [239, 191, 189] = true) : ∃ r, (L s).drop pos = 239 :: 191 :: 189 :: r := by
 have e : (s.extract pos s.size).data.toList = (L s).drop pos := by
  have := L_extract s pos s.size
  rw [List.take_of_length_le (by rw [List.length_drop, ← size_L]; exact Nat.le_refl _)] at this
  exact this
 rw [e] at h
 obtain ⟨r, hr⟩ := List.isPrefixOf_iff_prefix.1 h
 exact ⟨r, hr.symm⟩
theorem utf_bad (s : ByteArray) (n pos : Nat) (hp : pos < s.size) (h : Utf8.decode s pos = (65533, 1)) : zw s (n + 1) pos = false := by
 unfold zw
 rw [if_pos hp, h]
 have hf : Lib.hasPrefix (s.extract pos s.size).data.toList [239, 191, 189] = false := by
  cases hc : Lib.hasPrefix (s.extract pos s.size).data.toList [239, 191, 189] with
  | false => rfl
  | true =>
   obtain ⟨r, hr⟩ := pref_drop s pos hc
   rw [dec_pref s pos r hr] at h
   cases h
 rw [if_neg (by simp only; omega), if_pos ⟨rfl, hf⟩]
theorem utf_good (s : ByteArray) (n pos c w : Nat) (hp : pos < s.size) (h : Utf8.decode s pos = (c, w)) (h1 : 32 ≤ c) (h2 : c ≠ 127) (h3 : c = 65533 → ∃ r, (L s).drop pos = 239 :: 191 :: 189 :: r) : zw s (n + 1) pos = zw s n (pos + w) := by
 conv => lhs; unfold zw
 rw [if_pos hp, h]
 rw [if_neg (by simp only; omega)]
 rw [if_neg]
 rintro ⟨hc, hf⟩
 obtain ⟨r, hr⟩ := h3 hc
 have e : (s.extract pos s.size).data.toList = (L s).drop pos := by
  have := L_extract s pos s.size
  rw [List.take_of_length_le (by rw [List.length_drop, ← size_L]; exact Nat.le_refl _)] at this
  exact this
 rw [e, hr] at hf
 simp [Lib.hasPrefix, List.isPrefixOf] at hf
theorem utf_l0 (s : ByteArray) (hs : s.size < 4294967281) : ∀ (n pos : Nat), s.size - pos ≤ n → pos ≤ s.size → Ev (fun k => qe.l0 k s pos) (zw s n pos) := by
 intro n
 induction n using Nat.strongRecOn with
 | _ n IH =>
 intro pos hn hpos
 rcases Nat.lt_or_ge pos s.size with hp | hp
 case inr =>
  refine Ev.step (fun k => by rw [qe.l0]) (Ev.neg (by omega) ((Ev.now _).to ?_))
  cases n with
  | zero => rfl
  | succ n => unfold zw; rw [if_neg (by omega)]
 obtain ⟨n, rfl⟩ : ∃ m, n = m + 1 := ⟨n - 1, by omega⟩
 obtain ⟨b0, hb0, g0, e0⟩ := lt_of_bt s pos hp
 have IH' : ∀ w, 0 < w → pos + w ≤ s.size → Ev (fun k => qe.l0 k s ((pos : Int) + (w : Nat))) (zw s n (pos + w)) := fun w hw hl => by
  have := IH n (by omega) (pos + w) (by omega) hl
  rw [Int.natCast_add] at this
  exact this
 refine Ev.step (fun k => by rw [qe.l0]) (Ev.pos (by omega) (Ev.pos (by omega) ?_))
 rw [e0]
 have j1t : Ev (fun k => qe.j1 k s pos b0 true) false := Ev.step (fun k => by rw [qe.j1]) (Ev.pos rfl (Ev.now _))
 by_cases c0 : b0 < 32
 ·refine Ev.pos (by omega) (j1t.to ?_)
  unfold zw
  rw [if_pos hp]
  have hd : Utf8.decode s pos = (b0, 1) := by
   unfold Utf8.decode
   simp only [Nat.add_zero, g0]
   rw [if_pos (by omega)]
  rw [hd, if_pos (Or.inl c0)]
 refine Ev.neg (by omega) ?_
 by_cases c1 : b0 = 127
 ·have e : ((b0 : Int) == 127) = true := by rw [beq_iff_eq]; omega
  rw [e]
  refine j1t.to ?_
  unfold zw
  rw [if_pos hp]
  have hd : Utf8.decode s pos = (b0, 1) := by
   unfold Utf8.decode
   simp only [Nat.add_zero, g0]
   rw [if_pos (by omega)]
  rw [hd, if_pos (Or.inr c1)]
 have e : ((b0 : Int) == 127) = false := by rw [beq_eq_false_iff_ne]; omega
 rw [e]
 refine Ev.step (fun k => by rw [qe.j1]) (Ev.neg (by decide) ?_)
 by_cases c2 : b0 < 128
 ·refine Ev.pos (by omega) ?_
  have hd : Utf8.decode s pos = (b0, 1) := by
   unfold Utf8.decode
   simp only [Nat.add_zero, g0]
   rw [if_pos (by omega)]
  rw [w64 (n := (pos : Int) + 1) (by omega) (by omega)]
  refine (IH' 1 (by omega) (by omega)).to ?_
  rw [utf_good s n pos b0 1 hp hd (by omega) (by omega) (by omega)]
 refine Ev.neg (by omega) ?_
 have bad : Utf8.decode s pos = (65533, 1) → false = zw s (n + 1) pos := fun h => (utf_bad s n pos hp h).symm
 by_cases c3 : b0 < 192
 ·refine Ev.neg (by omega) (Ev.step (fun k => by rw [qe.j2]) (Ev.neg (by decide) (Ev.neg (by omega) (Ev.step (fun k => by rw [qe.j3]) (Ev.neg (by decide) (Ev.neg (by omega) ((Ev.now _).to (bad ?_))))))))
  unfold Utf8.decode
  simp only [Nat.add_zero, g0]
  rw [if_neg (by omega), if_neg (by simp only [Bool.and_eq_true, beq_iff_eq]; omega), if_neg (by simp only [Bool.and_eq_true, beq_iff_eq]; omega), if_neg (by simp only [Bool.and_eq_true, beq_iff_eq]; omega)]
  rfl
 refine Ev.pos (by omega) (Ev.step (fun k => by rw [qe.j2]) ?_)
 have cnt : ∀ j, (decide (pos + j < s.size) && (s.get! (pos + j)).toNat / 64 == 2) = true ↔ pos + j < s.size ∧ (s.get! (pos + j)).toNat / 64 = 2 := fun j => by simp only [Bool.and_eq_true, decide_eq_true_eq, beq_iff_eq]
 by_cases c4 : b0 < 224
 ·refine Ev.pos (by simpa using (by omega : (b0 : Int) < 224)) (Ev.step (fun k => by rw [qe.j4]) ?_)
  rw [w64 (n := (s.size : Int) - pos) (by omega) (by omega)]
  by_cases z1 : pos + 1 < s.size
  case neg =>
   refine Ev.pos (by omega) ((Ev.now _).to (bad ?_))
   unfold Utf8.decode
   simp only [Nat.add_zero, g0, z1, decide_false, Bool.false_and, Bool.and_false, Bool.false_eq_true, if_false]
   rw [if_neg (by omega)]
   rfl
  refine Ev.neg (by omega) (Ev.pos (by decide +kernel) ?_)
  rw [mask1 b0 hb0]
  obtain ⟨b1, hb1, g1, e1⟩ := lt_of_bt s (pos + 1) z1
  by_cases k1 : b1 / 64 = 2
  case neg =>
   refine (l1_bad s pos 1 128 _ 1 b1 e1 (by omega) (by omega) (by omega) (by omega) hs hb1 k1).to (bad ?_)
   unfold Utf8.decode
   have : (b1 / 64 == 2) = false := by rw [beq_eq_false_iff_ne]; exact k1
   simp only [Nat.add_zero, g0, g1, this, Bool.false_and, Bool.and_false, Bool.false_eq_true, if_false]
   rw [if_neg (by omega)]
   rfl
  refine l1_more s pos 1 128 _ 1 b1 _ e1 (by omega) (by omega) (by omega) (by omega) hs k1 (by omega) (by omega) ?_
  refine (l1_end s pos 1 128 _ 2 _ (by omega) (by omega) (by omega) (by omega) (by omega) hs (IH' 2 (by omega) (by omega))).to ?_
  by_cases q : b0 % 32 * 64 + b1 % 64 ≥ 128
  ·rw [if_neg (by omega)]
   refine (utf_good s n pos (b0 % 32 * 64 + b1 % 64) 2 hp ?_ (by omega) (by omega) (by omega)).symm
   unfold Utf8.decode
   simp only [Nat.add_zero, g0, g1, z1, k1, decide_true, BEq.rfl, Bool.and_true]
   rw [if_neg (by omega), if_pos (by rw [beq_iff_eq]; omega), if_pos (by omega)]
  ·rw [if_pos (by omega)]
   refine bad ?_
   unfold Utf8.decode
   simp only [Nat.add_zero, g0, g1, z1, k1, decide_true, BEq.rfl, Bool.and_true]
   rw [if_neg (by omega), if_pos (by rw [beq_iff_eq]; omega), if_neg (by omega)]
   rfl
 refine Ev.neg (by simpa using (by omega : ¬ (b0 : Int) < 224)) (Ev.pos (by omega) (Ev.step (fun k => by rw [qe.j3]) ?_))
 by_cases c5 : b0 < 240
 ·refine Ev.pos (by simpa using (by omega : (b0 : Int) < 240)) (Ev.step (fun k => by rw [qe.j4]) ?_)
  rw [w64 (n := (s.size : Int) - pos) (by omega) (by omega)]
  have n6 : (b0 / 32 == 6) = false := by rw [beq_eq_false_iff_ne]; omega
  by_cases z2 : pos + 2 < s.size
  case neg =>
   refine Ev.pos (by omega) ((Ev.now _).to (bad ?_))
   unfold Utf8.decode
   simp only [Nat.add_zero, g0, n6, z2, decide_false, Bool.false_and, Bool.and_false, Bool.false_eq_true, if_false]
   rw [if_neg (by omega)]
   rfl
  have z1 : pos + 1 < s.size := by omega
  refine Ev.neg (by omega) (Ev.pos (by decide +kernel) ?_)
  rw [mask2 b0 hb0]
  obtain ⟨b1, hb1, g1, e1⟩ := lt_of_bt s (pos + 1) z1
  obtain ⟨b2, hb2, g2, e2⟩ := lt_of_bt s (pos + 2) z2
  by_cases k1 : b1 / 64 = 2
  case neg =>
   refine (l1_bad s pos 2 2048 _ 1 b1 e1 (by omega) (by omega) (by omega) (by omega) hs hb1 k1).to (bad ?_)
   unfold Utf8.decode
   have : (b1 / 64 == 2) = false := by rw [beq_eq_false_iff_ne]; exact k1
   simp only [Nat.add_zero, g0, g1, this, Bool.false_and, Bool.and_false, Bool.false_eq_true, if_false]
   rw [if_neg (by omega)]
   rfl
  refine l1_more s pos 2 2048 _ 1 b1 _ e1 (by omega) (by omega) (by omega) (by omega) hs k1 (by omega) (by omega) ?_
  by_cases k2 : b2 / 64 = 2
  case neg =>
   refine (l1_bad s pos 2 2048 _ 2 b2 e2 (by omega) (by omega) (by omega) (by omega) hs hb2 k2).to (bad ?_)
   unfold Utf8.decode
   have : (b2 / 64 == 2) = false := by rw [beq_eq_false_iff_ne]; exact k2
   simp only [Nat.add_zero, g0, g1, g2, n6, this, Bool.false_and, Bool.and_false, Bool.false_eq_true, if_false]
   rw [if_neg (by omega)]
   rfl
  refine l1_more s pos 2 2048 _ 2 b2 _ e2 (by omega) (by omega) (by omega) (by omega) hs k2 (by omega) (by omega) ?_
  refine (l1_end s pos 2 2048 _ 3 _ (by omega) (by omega) (by omega) (by omega) (by omega) hs (IH' 3 (by omega) (by omega))).to ?_
  have n14 : b0 / 16 = 14 := by omega
  have vd : Utf8.valid ((b0 % 16 * 4096 + b1 % 64 * 64 + b2 % 64 : Nat) : Int) = true ↔ ¬ (55296 ≤ b0 % 16 * 4096 + b1 % 64 * 64 + b2 % 64 ∧ b0 % 16 * 4096 + b1 % 64 * 64 + b2 % 64 < 57344) := by
   unfold Utf8.valid
   simp only [Bool.or_eq_true, Bool.and_eq_true, decide_eq_true_eq]
   omega
  by_cases q : b0 % 16 * 4096 + b1 % 64 * 64 + b2 % 64 ≥ 2048 ∧ ¬ (55296 ≤ b0 % 16 * 4096 + b1 % 64 * 64 + b2 % 64 ∧ b0 % 16 * 4096 + b1 % 64 * 64 + b2 % 64 < 57344)
  ·rw [if_neg (by omega)]
   refine (utf_good s n pos (b0 % 16 * 4096 + b1 % 64 * 64 + b2 % 64) 3 hp ?_ (by omega) (by omega) ?_).symm
   ·unfold Utf8.decode
    simp only [Nat.add_zero, g0, g1, g2, z1, z2, k1, k2, n6, n14, decide_true, BEq.rfl, Bool.and_true, Bool.false_and, Bool.false_eq_true, if_false, Bool.true_and, if_true]
    rw [if_neg (by omega), if_pos (by rw [vd.2 q.2, Bool.and_true, decide_eq_true_eq]; exact q.1)]
   ·intro hq
    have x0 : b0 = 239 := by omega
    have x1 : b1 = 191 := by omega
    have x2 : b2 = 189 := by omega
    obtain ⟨u0, v0, y0⟩ := at_some hp
    obtain ⟨u1, v1, y1⟩ := at_some z1
    obtain ⟨u2, v2, y2⟩ := at_some z2
    have t0 : u0 = 239 := UInt8.toNat_inj.1 (by have : (u0.toNat : Int) = b0 := y0.symm.trans e0; rw [x0] at this; exact Int.ofNat_inj.1 this)
    have t1 : u1 = 191 := UInt8.toNat_inj.1 (by have : (u1.toNat : Int) = b1 := y1.symm.trans e1; rw [x1] at this; exact Int.ofNat_inj.1 this)
    have t2 : u2 = 189 := UInt8.toNat_inj.1 (by have : (u2.toNat : Int) = b2 := y2.symm.trans e2; rw [x2] at this; exact Int.ofNat_inj.1 this)
    refine ⟨(L s).drop (pos + 2 + 1), ?_⟩
    rw [v0, v1, v2, t0, t1, t2]
  ·rw [if_pos (by omega)]
   refine bad ?_
   unfold Utf8.decode
   simp only [Nat.add_zero, g0, g1, g2, z1, z2, k1, k2, n6, n14, decide_true, BEq.rfl, Bool.and_true, Bool.false_and, Bool.false_eq_true, if_false, Bool.true_and, if_true]
   rw [if_neg (by omega), if_neg (by rw [Bool.and_eq_true, decide_eq_true_eq, vd]; omega)]
   rfl
 refine Ev.neg (by simpa using (by omega : ¬ (b0 : Int) < 240)) (Ev.pos (by omega) ?_)
 have n6 : (b0 / 32 == 6) = false := by rw [beq_eq_false_iff_ne]; omega
 have n14 : (b0 / 16 == 14) = false := by rw [beq_eq_false_iff_ne]; omega
 by_cases c6 : b0 < 248
 case neg =>
  refine Ev.neg (by omega) ((Ev.now _).to (bad ?_))
  have n30 : (b0 / 8 == 30) = false := by rw [beq_eq_false_iff_ne]; omega
  unfold Utf8.decode
  simp only [Nat.add_zero, g0, n6, n14, n30, Bool.false_and, Bool.and_false, Bool.false_eq_true, if_false]
  rw [if_neg (by omega)]
  rfl
 refine Ev.pos (by omega) (Ev.step (fun k => by rw [qe.j4]) ?_)
 rw [w64 (n := (s.size : Int) - pos) (by omega) (by omega)]
 by_cases z3 : pos + 3 < s.size
 case neg =>
  refine Ev.pos (by omega) ((Ev.now _).to (bad ?_))
  unfold Utf8.decode
  simp only [Nat.add_zero, g0, n6, n14, z3, decide_false, Bool.false_and, Bool.and_false, Bool.false_eq_true, if_false]
  rw [if_neg (by omega)]
  rfl
 have z1 : pos + 1 < s.size := by omega
 have z2 : pos + 2 < s.size := by omega
 refine Ev.neg (by omega) (Ev.pos (by decide +kernel) ?_)
 rw [mask3 b0 hb0]
 obtain ⟨b1, hb1, g1, e1⟩ := lt_of_bt s (pos + 1) z1
 obtain ⟨b2, hb2, g2, e2⟩ := lt_of_bt s (pos + 2) z2
 obtain ⟨b3, hb3, g3, e3⟩ := lt_of_bt s (pos + 3) z3
 by_cases k1 : b1 / 64 = 2
 case neg =>
  refine (l1_bad s pos 3 65536 _ 1 b1 e1 (by omega) (by omega) (by omega) (by omega) hs hb1 k1).to (bad ?_)
  unfold Utf8.decode
  have : (b1 / 64 == 2) = false := by rw [beq_eq_false_iff_ne]; exact k1
  simp only [Nat.add_zero, g0, g1, n6, n14, this, Bool.false_and, Bool.and_false, Bool.false_eq_true, if_false]
  rw [if_neg (by omega)]
  rfl
 refine l1_more s pos 3 65536 _ 1 b1 _ e1 (by omega) (by omega) (by omega) (by omega) hs k1 (by omega) (by omega) ?_
 by_cases k2 : b2 / 64 = 2
 case neg =>
  refine (l1_bad s pos 3 65536 _ 2 b2 e2 (by omega) (by omega) (by omega) (by omega) hs hb2 k2).to (bad ?_)
  unfold Utf8.decode
  have : (b2 / 64 == 2) = false := by rw [beq_eq_false_iff_ne]; exact k2
  simp only [Nat.add_zero, g0, g1, g2, n6, n14, this, Bool.false_and, Bool.and_false, Bool.false_eq_true, if_false]
  rw [if_neg (by omega)]
  rfl
 refine l1_more s pos 3 65536 _ 2 b2 _ e2 (by omega) (by omega) (by omega) (by omega) hs k2 (by omega) (by omega) ?_
 by_cases k3 : b3 / 64 = 2
 case neg =>
  refine (l1_bad s pos 3 65536 _ 3 b3 e3 (by omega) (by omega) (by omega) (by omega) hs hb3 k3).to (bad ?_)
  unfold Utf8.decode
  have : (b3 / 64 == 2) = false := by rw [beq_eq_false_iff_ne]; exact k3
  simp only [Nat.add_zero, g0, g1, g2, g3, n6, n14, this, Bool.false_and, Bool.and_false, Bool.false_eq_true, if_false]
  rw [if_neg (by omega)]
  rfl
 refine l1_more s pos 3 65536 _ 3 b3 _ e3 (by omega) (by omega) (by omega) (by omega) hs k3 (by omega) (by omega) ?_
 refine (l1_end s pos 3 65536 _ 4 _ (by omega) (by omega) (by omega) (by omega) (by omega) hs (IH' 4 (by omega) (by omega))).to ?_
 have n30 : b0 / 8 = 30 := by omega
 have vd : Utf8.valid ((b0 % 8 * 262144 + b1 % 64 * 4096 + b2 % 64 * 64 + b3 % 64 : Nat) : Int) = true ↔ b0 % 8 * 262144 + b1 % 64 * 4096 + b2 % 64 * 64 + b3 % 64 ≤ 1114111 ∧ ¬ (55296 ≤ b0 % 8 * 262144 + b1 % 64 * 4096 + b2 % 64 * 64 + b3 % 64 ∧ b0 % 8 * 262144 + b1 % 64 * 4096 + b2 % 64 * 64 + b3 % 64 < 57344) := by
  unfold Utf8.valid
  simp only [Bool.or_eq_true, Bool.and_eq_true, decide_eq_true_eq]
  omega
 by_cases q : b0 % 8 * 262144 + b1 % 64 * 4096 + b2 % 64 * 64 + b3 % 64 ≥ 65536 ∧ b0 % 8 * 262144 + b1 % 64 * 4096 + b2 % 64 * 64 + b3 % 64 ≤ 1114111
 ·rw [if_neg (by omega)]
  refine (utf_good s n pos (b0 % 8 * 262144 + b1 % 64 * 4096 + b2 % 64 * 64 + b3 % 64) 4 hp ?_ (by omega) (by omega) (by omega)).symm
  unfold Utf8.decode
  simp only [Nat.add_zero, g0, g1, g2, g3, z1, z2, z3, k1, k2, k3, n6, n14, n30, decide_true, BEq.rfl, Bool.and_true, Bool.false_and, Bool.false_eq_true, if_false, Bool.true_and, if_true]
  rw [if_neg (by omega), if_pos (by rw [vd.2 (by omega), Bool.and_true, decide_eq_true_eq]; exact q.1)]
 ·rw [if_pos (by omega)]
  refine bad ?_
  unfold Utf8.decode
  simp only [Nat.add_zero, g0, g1, g2, g3, z1, z2, z3, k1, k2, k3, n6, n14, n30, decide_true, BEq.rfl, Bool.and_true, Bool.false_and, Bool.false_eq_true, if_false, Bool.true_and, if_true]
  rw [if_neg (by omega), if_neg (by rw [Bool.and_eq_true, decide_eq_true_eq, vd]; omega)]
  rfl
def okText (a0 : Int) (s : ByteArray) : Bool := if a0 = 12 then zw s s.size 0 else if a0 = 19 then (bytesOf s).all text_p1 else if a0 = 22 then (bytesOf s).all text_p2 else false
theorem text_Valid_f (a0 : Int) (s : ByteArray) (h : s.size ≤ 4294967280) : xx.f a0 s = some (okText a0 s) := by
 unfold xx.f okText
 rw [if_pos h]
theorem prn_byte : ∀ n : Nat, n < 256 → (xa.f n = some true ∧ text_p1 n = true) ∨ (xa.f n = some false ∧ q3.f 20 n (⟨#[32, 39, 40, 41, 43, 44, 45, 46, 47, 58, 61, 63]⟩ : ByteArray) = some (text_p1 n)) := by decide +kernel
theorem ia5_byte : ∀ n : Nat, n < 256 → text_p2 n = (decide (32 ≤ n) && decide (n ≤ 126)) := by decide +kernel
theorem prn_l0 (s : ByteArray) (hs : s.size < 4294967281) : ∀ (rest : List UInt8) (i : Nat), (L s).drop i = rest → i ≤ s.size → Ev (fun k => qf.l0 k 19 s i) ((rest.map fun b => (b.toNat : Int)).all text_p1)
 | [], i, h, hi => by
  have hn := at_nil h
  refine Ev.step (fun k => by rw [qf.l0]) ?_
  exact Ev.neg (by omega) (Ev.now _)
 | c :: r, i, h, hi => by
  obtain ⟨hl, hb, hr⟩ := at_cons h
  have ih := prn_l0 s hs r (i + 1) hr (by omega)
  refine Ev.step (fun k => by rw [qf.l0]) (Ev.pos (by omega) (Ev.neg (by decide) (Ev.pos (by decide) (Ev.pos (by omega) ?_))))
  rw [hb]
  have jt : Ev (fun k => qf.j2 k 19 s i true) false := Ev.step (fun k => by rw [qf.j2]) (Ev.pos rfl (Ev.now _))
  have jf : Ev (fun k => qf.j2 k 19 s i false) ((r.map fun b => (b.toNat : Int)).all text_p1) := Ev.step (fun k => by rw [qf.j2]) (Ev.neg (by decide) (by
   rw [w64 (n := (i : Int) + 1) (by omega) (by omega)]; exact ih))
  rcases prn_byte c.toNat c.toNat_lt with ⟨h1, h2⟩ | ⟨h1, h2⟩
  ·refine Ev.bnd h1 (Ev.pos rfl (jf.to ?_))
   simp [h2]
  ·refine Ev.bnd h1 (Ev.neg (by decide) (Ev.bind (Ev.of (fun k => q3.mono _ _ k) h2) ?_))
   cases hp : text_p1 c.toNat with
   | true =>
    refine jf.to ?_
    simp [hp]
   | false =>
    refine jt.to ?_
    simp [hp]
theorem ia5_l0 (s : ByteArray) (hs : s.size < 4294967281) : ∀ (rest : List UInt8) (i : Nat), (L s).drop i = rest → i ≤ s.size → Ev (fun k => qf.l0 k 22 s i) ((rest.map fun b => (b.toNat : Int)).all text_p2)
 | [], i, h, hi => by
  have hn := at_nil h
  refine Ev.step (fun k => by rw [qf.l0]) ?_
  exact Ev.neg (by omega) (Ev.now _)
 | c :: r, i, h, hi => by
  obtain ⟨hl, hb, hr⟩ := at_cons h
  have ih := ia5_l0 s hs r (i + 1) hr (by omega)
  refine Ev.step (fun k => by rw [qf.l0]) (Ev.pos (by omega) (Ev.pos rfl (Ev.pos (by omega) ?_)))
  rw [hb]
  have jt : Ev (fun k => qf.j2 k 22 s i true) false := Ev.step (fun k => by rw [qf.j2]) (Ev.pos rfl (Ev.now _))
  have jf : Ev (fun k => qf.j2 k 22 s i false) ((r.map fun b => (b.toNat : Int)).all text_p2) := Ev.step (fun k => by rw [qf.j2]) (Ev.neg (by decide) (by
   rw [w64 (n := (i : Int) + 1) (by omega) (by omega)]; exact ih))
  have hp := ia5_byte c.toNat c.toNat_lt
  by_cases c1 : c.toNat < 32
  ·refine Ev.pos (by omega) (jt.to ?_)
   have : text_p2 c.toNat = false := by rw [hp]; simp; omega
   simp [this]
  refine Ev.neg (by omega) ?_
  by_cases c2 : 126 < c.toNat
  ·refine Ev.pos (by omega) (jt.to ?_)
   have : text_p2 c.toNat = false := by rw [hp]; simp; omega
   simp [this]
  refine Ev.neg (by omega) (Ev.neg (by decide) (jf.to ?_))
  have : text_p2 c.toNat = true := by rw [hp]; simp; omega
  simp [this]
theorem ValidText_f (a0 : Int) (s : ByteArray) (h : s.size < 4294967281) : Ev (fun k => qf.f k a0 s) (okText a0 s) := by
 unfold qf.f okText
 by_cases h12 : a0 = 12
 ·rw [if_pos h12]
  refine Ev.pos h12 ?_
  refine Ev.bind (f := fun _ t => some t) (show Ev (fun k => qe.f k s) _ from utf_l0 s h s.size 0 (by omega) (by omega)) ?_
  exact Ev.now _
 rw [if_neg h12]
 refine Ev.neg h12 ?_
 by_cases h19 : a0 = 19
 ·subst h19
  rw [if_pos rfl]
  refine Ev.pos rfl (Ev.step (fun k => by rw [qf.j0]) ?_)
  exact Ev.pos rfl (prn_l0 s h (L s) 0 rfl (by omega))
 rw [if_neg h19]
 refine Ev.neg h19 ?_
 by_cases h22 : a0 = 22
 ·subst h22
  rw [if_pos rfl]
  refine Ev.step (fun k => by rw [qf.j0]) ?_
  exact Ev.pos rfl (ia5_l0 s h (L s) 0 rfl (by omega))
 ·rw [if_neg h22]
  have e : (a0 == 22) = false := by rw [beq_eq_false_iff_ne]; exact h22
  rw [e]
  refine Ev.step (fun k => by rw [qf.j0]) ?_
  exact Ev.neg (by decide) (Ev.now _)
end Go.Proofs.YtjhlinifnjoefaaDoor.Pl
end
section
namespace Go.Proofs.YtjhlinifnjoefaaDoor.Pl
open Go.RowKit Go.Proofs.YtjhlinifnjoefaaDoorW.PrintWords Go.Proofs.YtjhlinifnjoefaaDoor.C
set_option linter.unusedSimpArgs false
set_option linter.unusedVariables false
theorem list_cons {α : Type} {l : List α} {d : α} {i : Nat} {a : α} {r : List α} (h : l.drop i = a :: r) : i < l.length ∧ l.getD i d = a ∧ l.drop (i + 1) = r := by
 have hl : i < l.length := by
  rcases Nat.lt_or_ge i l.length with h' | h'
  ·exact h'
  ·rw [List.drop_eq_nil_of_le h'] at h; cases h
 rw [List.drop_eq_getElem_cons hl] at h
 refine ⟨hl, ?_, (List.cons.inj h).2⟩
 rw [List.getD_eq_getElem?_getD, List.getElem?_eq_getElem hl]
 exact (List.cons.inj h).1
theorem list_nil {α : Type} {l : List α} {i : Nat} (h : l.drop i = []) : l.length ≤ i := List.drop_eq_nil_iff.1 h
theorem rd26 {l : List S26} {i : Nat} {a : S26} {r : List S26} (h : l.drop i = a :: r) : qm l i = a := (list_cons (d := z26) h).2.1
theorem rdL4 {l : List (List S26)} {i : Nat} {a : List S26} {r : List (List S26)} (h : l.drop i = a :: r) : xq l i = a := (list_cons (d := ([] : List S26)) h).2.1
def relFrom (pre : List S26) : List S26 → Int
 | [] => 0
 | a :: r => if okOid (L a.f0) = true then (if L a.f2 = [] ∨ okText a.f1 a.f2 = false then 13 else if 64 < a.f2.size then 2 else if (pre.any fun b => decide (L b.f0 = L a.f0)) = true then 10 else relFrom (pre ++ [a]) r) else 11
def relErr (l : List S26) : Int := if l.length = 0 then 14 else if 4 < l.length then 2 else relFrom [] l
def relsErr : List (List S26) → Int
 | [] => 0
 | l :: r => if relErr l = 0 then relsErr r else relErr l
def nameErr (n : List (List S26)) : Int := if 8 < n.length then 2 else relsErr n
def Fit (l : List S26) : Prop := ∀ a ∈ l, a.f0.size < 4294967281 ∧ a.f2.size < 4294967281
theorem dup_t (l : List S26) (b0 : ByteArray) (b1 : Int) (b2 : ByteArray) (x14 x15 : Int) (y : List S26) (hy : y.length < 1000) (r : Int) : ∀ (rest : List S26) (i : Nat), y.drop i = rest →
  (if (rest.any fun b => decide (L b.f0 = L b0)) = true then r = 10 else Ev (fun k => qp.l0 k l l x14 (wrap64 (x15 + 1))) r) →
  Ev (fun k => qp.l1 k l l x14 x15 y (y.length : Int) i b0 b1 b2) r
 | [], i, h, hr => by
  have hn := list_nil h
  rw [if_neg (by simp)] at hr
  refine Ev.step (fun k => by rw [qp.l1]) ?_
  exact Ev.neg (by omega) hr
 | a :: t, i, h, hr => by
  obtain ⟨hl, _, ht⟩ := list_cons (d := z26) h
  refine Ev.step (fun k => by rw [qp.l1]) ?_
  rw [rd26 h]
  refine Ev.pos (by omega) (Ev.pos (by omega) (Ev.pos (by omega) ?_))
  by_cases hc : L a.f0 = L b0
  ·rw [if_pos (by simp [hc])] at hr
   rw [hr]
   exact Ev.pos (by rw [kp, kp]; exact hc) (Ev.now _)
  ·refine Ev.neg (by rw [kp, kp]; exact hc) ?_
   rw [w64 (n := (i : Int) + 1) (by omega) (by omega)]
   refine dup_t l b0 b1 b2 x14 x15 y hy r t (i + 1) ht ?_
   simpa [hc] using hr
theorem rel_t (l : List S26) (hl : l.length < 1000) (hf : Fit l) : ∀ (rest : List S26) (i : Nat), l.drop i = rest → i ≤ l.length → Ev (fun k => qp.l0 k l l (l.length : Int) i) (relFrom (l.take i) rest)
 | [], i, h, hi => by
  have hn := list_nil h
  refine Ev.step (fun k => by rw [qp.l0]) ?_
  exact Ev.neg (by omega) (Ev.now _)
 | a :: t, i, h, hi => by
  obtain ⟨hli, _, ht⟩ := list_cons (d := z26) h
  have hfa := hf a (List.mem_of_mem_drop (i := i) (by rw [h]; exact List.mem_cons_self ..))
  have jt : ∀ b0 b1 b2, Ev (fun k => qp.j1 k l i l (l.length : Int) i true b0 b1 b2) 13 := fun b0 b1 b2 => by
   refine Ev.step (fun k => by rw [qp.j1]) ?_
   exact Ev.pos rfl (Ev.now _)
  refine Ev.step (fun k => by rw [qp.l0]) ?_
  rw [rd26 h]
  refine Ev.pos (by omega) (Ev.pos (by omega) (Ev.pos (by omega) ?_))
  refine Ev.bind (oid_Valid_f a.f0 hfa.1) ?_
  by_cases ho : okOid (L a.f0) = true
  case neg =>
   refine Ev.neg ho ((Ev.now _).to ?_)
   rw [relFrom, if_neg ho]
  refine Ev.pos ho ?_
  rw [relFrom, if_pos ho]
  by_cases he : L a.f2 = []
  ·refine Ev.pos (by rw [kp, he]) ((jt _ _ _).to ?_)
   rw [if_pos (Or.inl he)]
  refine Ev.neg (by rw [kp]; exact he) (Ev.bnd (text_Valid_f a.f1 a.f2 (by omega)) ?_)
  cases hv : okText a.f1 a.f2 with
  | false =>
   refine (jt _ _ _).to ?_
   rw [if_pos (Or.inr rfl)]
  | true =>
   rw [if_neg (by simp [he])]
   refine Ev.step (fun k => by rw [qp.j1]) (Ev.neg (by decide) ?_)
   by_cases h64 : 64 < a.f2.size
   ·refine Ev.pos (by omega) ((Ev.now _).to ?_)
    rw [if_pos h64]
   rw [if_neg h64]
   refine Ev.neg (by omega) (Ev.pos (by omega) (Ev.pos (by omega) (Ev.bnd rfl ?_)))
   refine dup_t l a.f0 a.f1 a.f2 _ _ (l.take (i : Int).toNat) (by rw [List.length_take]; omega) _ _ 0 rfl ?_
   have e : l.take (i : Int).toNat = l.take i := rfl
   rw [e, List.drop_zero]
   by_cases hd : ((l.take i).any fun b => decide (L b.f0 = L a.f0)) = true
   ·rw [if_pos hd, if_pos hd]
   ·rw [if_neg hd, if_neg hd, w64 (n := (i : Int) + 1) (by omega) (by omega)]
    have ih := rel_t l hl hf t (i + 1) ht (by omega)
    have e2 : l.take (i + 1) = l.take i ++ [a] := by
     rw [List.take_add_one]
     have := congrArg (fun l => l[0]?) h
     simp [List.getElem?_drop] at this
     rw [this]; rfl
    rw [e2] at ih
    exact ih
theorem checkRelative_f (l : List S26) (hf : Fit l) : Ev (fun k => qp.f k l) (relErr l) := by
 unfold qp.f relErr
 by_cases h0 : l.length = 0
 ·rw [if_pos h0]
  exact Ev.pos (by omega) (Ev.now _)
 rw [if_neg h0]
 refine Ev.neg (by omega) ?_
 by_cases h4 : 4 < l.length
 ·rw [if_pos h4]
  exact Ev.pos (by omega) (Ev.now _)
 rw [if_neg h4]
 exact Ev.neg (by omega) (rel_t l (by omega) hf l 0 rfl (by omega))
theorem Check_l0 (n : List (List S26)) (hn : n.length < 1000) (hf : ∀ l ∈ n, Fit l) : ∀ (rest : List (List S26)) (i : Nat), n.drop i = rest → Ev (fun k => zd.l0 k n (n.length : Int) i) (relsErr rest)
 | [], i, h => by
  have hn := list_nil h
  refine Ev.step (fun k => by rw [zd.l0]) ?_
  exact Ev.neg (by omega) (Ev.now _)
 | a :: t, i, h => by
  obtain ⟨hli, _, ht⟩ := list_cons (d := ([] : List S26)) h
  refine Ev.step (fun k => by rw [zd.l0]) ?_
  rw [rdL4 h]
  refine Ev.pos (by omega) (Ev.pos (by omega) (Ev.pos (by omega) ?_))
  refine Ev.bind (checkRelative_f a (hf a (List.mem_of_mem_drop (i := i) (by rw [h]; exact List.mem_cons_self ..)))) ?_
  rw [relsErr]
  by_cases h0 : relErr a = 0
  ·rw [if_pos h0, w64 (n := (i : Int) + 1) (by omega) (by omega)]
   exact Ev.pos h0 (Check_l0 n hn hf t (i + 1) ht)
  ·rw [if_neg h0]
   exact Ev.neg h0 (Ev.now _)
theorem Check_f (n : List (List S26)) (hf : ∀ l ∈ n, Fit l) : Ev (fun k => zd.f k n) (nameErr n) := by
 unfold zd.f nameErr
 by_cases h8 : 8 < n.length
 ·rw [if_pos h8]
  exact Ev.pos (by omega) (Ev.now _)
 ·rw [if_neg h8]
  exact Ev.neg (by omega) (Check_l0 n (by omega) hf n 0 rfl)
theorem dup_r (l : List S26) (hl : l.length < 1000) (b0 : ByteArray) (b1 : Int) (b2 : ByteArray) (x7 x8 : Int) (m : Nat) (hm : m ≤ l.length) (r : Int) : ∀ (d i : Nat), i + d = m →
  (if (((l.take m).drop i).any fun b => decide (L b.f0 = L b0)) = true then r = 10 else Ev (fun k => qj.l0 k l l x7 (wrap64 (x8 + 1))) r) →
  Ev (fun k => qj.l1 k l m i l x7 x8 b0 b1 b2) r
 | 0, i, h, hr => by
  have e : (l.take m).drop i = [] := List.drop_eq_nil_of_le (by rw [List.length_take]; omega)
  rw [e, if_neg (by simp)] at hr
  refine Ev.step (fun k => by rw [qj.l1]) ?_
  exact Ev.neg (by omega) hr
 | d + 1, i, h, hr => by
  have hil : i < l.length := by omega
  have hit : i < (l.take m).length := by rw [List.length_take]; omega
  have e : (l.take m).drop i = l[i] :: (l.take m).drop (i + 1) := by
   rw [List.drop_eq_getElem_cons hit, List.getElem_take]
  have hd : l.drop i = l[i] :: l.drop (i + 1) := List.drop_eq_getElem_cons hil
  rw [e] at hr
  refine Ev.step (fun k => by rw [qj.l1]) ?_
  rw [rd26 hd]
  refine Ev.pos (by omega) (Ev.pos (by omega) (Ev.pos (by omega) ?_))
  generalize l[i] = a at hr ⊢
  by_cases hc : L a.f0 = L b0
  ·rw [if_pos (by simp [hc])] at hr
   rw [hr]
   exact Ev.pos (by rw [kp, kp]; exact hc) (Ev.now _)
  ·refine Ev.neg (by rw [kp, kp]; exact hc) ?_
   rw [w64 (n := (i : Int) + 1) (by omega) (by omega)]
   refine dup_r l hl b0 b1 b2 x7 x8 m hm r d (i + 1) (by omega) ?_
   rw [List.any_cons, decide_eq_false hc, Bool.false_or] at hr
   exact hr
theorem rel_r (l : List S26) (hl : l.length < 1000) (hf : Fit l) : ∀ (rest : List S26) (i : Nat), l.drop i = rest → i ≤ l.length → Ev (fun k => qj.l0 k l l (l.length : Int) i) (relFrom (l.take i) rest)
 | [], i, h, hi => by
  have hn := list_nil h
  refine Ev.step (fun k => by rw [qj.l0]) ?_
  exact Ev.neg (by omega) (Ev.now _)
 | a :: t, i, h, hi => by
  obtain ⟨hli, _, ht⟩ := list_cons (d := z26) h
  have hfa := hf a (List.mem_of_mem_drop (i := i) (by rw [h]; exact List.mem_cons_self ..))
  have jt : ∀ b0 b1 b2, Ev (fun k => qj.j1 k l i l (l.length : Int) i true b0 b1 b2) 13 := fun b0 b1 b2 => by
   refine Ev.step (fun k => by rw [qj.j1]) ?_
   exact Ev.pos rfl (Ev.now _)
  refine Ev.step (fun k => by rw [qj.l0]) ?_
  rw [rd26 h]
  refine Ev.pos (by omega) (Ev.pos (by omega) (Ev.pos (by omega) ?_))
  refine Ev.bind (ValidOID_f a.f0 hfa.1) ?_
  by_cases ho : okOid (L a.f0) = true
  case neg =>
   refine Ev.neg ho ((Ev.now _).to ?_)
   rw [relFrom, if_neg ho]
  refine Ev.pos ho ?_
  rw [relFrom, if_pos ho]
  by_cases he : L a.f2 = []
  ·refine Ev.pos (by rw [size_L, he]; rfl) ((jt _ _ _).to ?_)
   rw [if_pos (Or.inl he)]
  refine Ev.neg (by rw [size_L]; intro h; exact he (List.length_eq_zero_iff.1 (by omega))) (Ev.bind (ValidText_f a.f1 a.f2 (by omega)) ?_)
  cases hv : okText a.f1 a.f2 with
  | false =>
   refine (jt _ _ _).to ?_
   rw [if_pos (Or.inr rfl)]
  | true =>
   rw [if_neg (by simp [he])]
   refine Ev.step (fun k => by rw [qj.j1]) (Ev.neg (by decide) ?_)
   by_cases h64 : 64 < a.f2.size
   ·refine Ev.pos (by omega) ((Ev.now _).to ?_)
    rw [if_pos h64]
   rw [if_neg h64]
   refine Ev.neg (by omega) ?_
   refine dup_r l hl a.f0 a.f1 a.f2 _ _ i hi _ i 0 (by omega) ?_
   rw [List.drop_zero]
   by_cases hd : ((l.take i).any fun b => decide (L b.f0 = L a.f0)) = true
   ·rw [if_pos hd, if_pos hd]
   ·rw [if_neg hd, if_neg hd, w64 (n := (i : Int) + 1) (by omega) (by omega)]
    have ih := rel_r l hl hf t (i + 1) ht (by omega)
    have e2 : l.take (i + 1) = l.take i ++ [a] := by
     rw [List.take_add_one]
     have := congrArg (fun l => l[0]?) h
     simp [List.getElem?_drop] at this
     rw [this]; rfl
    rw [e2] at ih
    exact ih
theorem CheckName_l0 (n : List (List S26)) (hn : n.length < 1000) (hf : ∀ l ∈ n, Fit l) : ∀ (rest : List (List S26)) (i : Nat), n.drop i = rest → Ev (fun k => qy.l0 k n (n.length : Int) i) (relsErr rest)
 | [], i, h => by
  have hn := list_nil h
  refine Ev.step (fun k => by rw [qy.l0]) ?_
  exact Ev.neg (by omega) (Ev.now _)
 | a :: t, i, h => by
  obtain ⟨hli, _, ht⟩ := list_cons (d := ([] : List S26)) h
  refine Ev.step (fun k => by rw [qy.l0]) ?_
  rw [rdL4 h]
  refine Ev.pos (by omega) (Ev.pos (by omega) (Ev.pos (by omega) ?_))
  rw [relsErr]
  by_cases h0 : a.length = 0
  ·refine Ev.pos (by omega) ((Ev.now _).to ?_)
   unfold relErr
   rw [if_pos h0, if_neg (by decide)]
  refine Ev.neg (by omega) ?_
  by_cases h4 : 4 < a.length
  ·refine Ev.pos (by omega) ((Ev.now _).to ?_)
   unfold relErr
   rw [if_neg h0, if_pos h4, if_neg (by decide)]
  refine Ev.neg (by omega) ?_
  have er : relErr a = relFrom [] a := by unfold relErr; rw [if_neg h0, if_neg h4]
  refine Ev.bind (show Ev (fun k => qj.f k a) (relFrom [] a) from rel_r a (by omega) (hf a (List.mem_of_mem_drop (i := i) (by rw [h]; exact List.mem_cons_self ..))) a 0 rfl (by omega)) ?_
  rw [er]
  by_cases hz : relFrom [] a = 0
  ·rw [if_pos hz, w64 (n := (i : Int) + 1) (by omega) (by omega)]
   exact Ev.pos hz (CheckName_l0 n hn hf t (i + 1) ht)
  ·rw [if_neg hz]
   exact Ev.neg hz (Ev.now _)
theorem CheckName_f (n : List (List S26)) (hf : ∀ l ∈ n, Fit l) : Ev (fun k => qy.f k n) (nameErr n) := by
 unfold qy.f nameErr
 by_cases h8 : 8 < n.length
 ·rw [if_pos h8]
  exact Ev.pos (by omega) (Ev.now _)
 ·rw [if_neg h8]
  exact Ev.neg (by omega) (CheckName_l0 n (by omega) hf n 0 rfl)
end Go.Proofs.YtjhlinifnjoefaaDoor.Pl
end
