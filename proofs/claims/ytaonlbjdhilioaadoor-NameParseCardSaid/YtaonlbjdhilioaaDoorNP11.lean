/- Words, walks and plain laws that the claim rests on, gathered. -/
import Derived.OrdersHeld
import Derived.Deep.RegionHeld3
import Derived.Laws.BitsLemmas
import Derived.RowKit
import Derived.Test.YtaonlbjdhilioaaDoorProg
import Derived.WalkSpells
import Derived.Below
import Derived.Deep.Draws
import Derived.Deep.AppendLies
import Derived.Maps.AppendAt
import Derived.OwnWalk
import Derived.Laws.BytesArg
import Derived.Laws.MakeOwn
import Derived.Laws.OwnMore
import Derived.Deep.OwnRows
import Derived.Tactics
import Derived.Lib.ConvBytes
import Derived.Laws.Slices
import Derived.WalkKit
import Derived.KernelRfl
import Derived.RowKit3
import Derived.Deep.LoopGhost
import Derived.Deep.QuietTactic
import Derived.BigQuiet
import Derived.WideLaws
import Derived.Deep.DeepCutAuto
import Derived.Deep.CutBlock
import Derived.Laws.Rows
import Derived.Lib.AppendStr
import Derived.ArgAppend
import Derived.Laws.IdiomCopy
import Derived.Laws.StructEq
import Derived.Shelf.Small.Strs
import Derived.Shelf.Small.Wraps
import Derived.Shelf.Utf8.RuneCount
import Derived.Shelf.Strings.Search1
import Derived.Shelf.Strings.Search2
import Derived.Shelf.Strings.Search3
import Derived.Shelf.Strings.Cut
import Derived.Shelf.Strings.Count
import Derived.Shelf.LaysM
import Derived.Shelf.Strings.Shaped
import Derived.Shelf.Strings.Prefix
import Derived.Shelf.Strings.Split
import Derived.Shelf.Strings.SplitShaped
import Derived.Shelf.Unicode.DecodeSlow
import Derived.Shelf.Unicode.DecodeAny
import Derived.Test.YtaonlbjdhilioaaDoorNP0
import Derived.Test.YtaonlbjdhilioaaDoorNP1
import Derived.Test.YtaonlbjdhilioaaDoorNP2
import Derived.Test.YtaonlbjdhilioaaDoorNP9
import Derived.Test.YtaonlbjdhilioaaDoorNP10
namespace Go.Proofs.YtaonlbjdhilioaaDoorW.PrintLast
end Go.Proofs.YtaonlbjdhilioaaDoorW.PrintLast
namespace Go.Proofs.YtaonlbjdhilioaaDoorW.PrintMore
end Go.Proofs.YtaonlbjdhilioaaDoorW.PrintMore
namespace Go.Proofs.YtaonlbjdhilioaaDoorW.PrintWords
end Go.Proofs.YtaonlbjdhilioaaDoorW.PrintWords
section
namespace Go.Proofs.YtaonlbjdhilioaaDoor.C
open Go.RowKit Go.Proofs.YtaonlbjdhilioaaDoorW.PrintWords Go.Proofs.YtaonlbjdhilioaaDoorW.PrintLast Go.Proofs.YtaonlbjdhilioaaDoorW.PrintMore
attribute [local go_sem] kf ke kp kr xr xt kg ki
set_option linter.unusedVariables false
set_option linter.unusedSimpArgs false
def ze.l0 : Nat → List (List (S26)) → Int → Int → Option (Int)
 | 0, _, _, _ => none
 | k + 1, x11, x12, x13 => if x13 < x12 then (if 0 ≤ x13 then (if x13 < (x11.length : Int) then (if ((xh x11 x13).length : Int) = 0 then (some 14) else (if ((xh x11 x13).length : Int) > 4 then (some 2) else ((qn.f k (xh x11 x13)).bind fun t253 => (if t253 = 0 then (ze.l0 k x11 x12 (wrap64 (x13 + 1))) else (some t253))))) else (none)) else (none)) else (some 0)
def ze.f (k : Nat) (l0_0 : List (List (S26))) : Option (Int) := if (l0_0.length : Int) > 8 then (some 2) else (ze.l0 k l0_0 (l0_0.length : Int) 0)
theorem ze.xf : ∀ k, (∀ y0 y1 y2, LeO (ze.l0 k y0 y1 y2) (ze.l0 (k + 1) y0 y1 y2))
 | 0 => fun _ _ _ r h => by simp [ze.l0] at h
 | k + 1 => by
  have ih0 := ze.xf k
  ·intro y0 y1 y2
   unfold ze.l0
   repeat' first
   | (with_reducible exact ih0 _ _ _)
   | (with_reducible exact qn.mono _ _)
   | (with_reducible exact LeO.refl _)
   | (with_reducible exact LeO.none _)
   | (with_reducible refine LeO.ite ?_ ?_)
   | (with_reducible refine LeO.bind ?_ (fun _ => ?_))
theorem ze.mono : ∀ a0 k, LeO (ze.f k a0) (ze.f (k + 1) a0) := by
 intro a0 k
 have ih0 := ze.xf k
 unfold ze.f
 repeat' first
   | (with_reducible exact ih0 _ _ _)
   | (with_reducible exact qn.mono _ _)
   | (with_reducible exact LeO.refl _)
   | (with_reducible exact LeO.none _)
   | (with_reducible refine LeO.ite ?_ ?_)
   | (with_reducible refine LeO.bind ?_ (fun _ => ?_))
set_option maxHeartbeats 8000000 in
set_option maxRecDepth 100000 in
theorem ze.calls (k : Nat) (A0_0 : Option Addr) (c0_0 : Nat) (l0_0 : List (List (S26))) (r : Int) (w : World) (hr0_0 : Kd.C (Kd.slice 26 k26) w A0_0 l0_0.length l0_0) (hc0_0 : l0_0.length ≤ c0_0) (h : ze.f k l0_0 = some r) :
  Calls Tryd.prog 11 #[.agg #[.slice A0_0 l0_0.length c0_0]] w fun e w' => e = .returned (.int .i64 r) ∧ Below w.heap.size w w' := by
 have hu24 := Tryd.underlying24
 have HR0_0 := qb.mk hr0_0
 have HC0_0 := qb.mk hc0_0
 clear hr0_0 hc0_0
 have HB := qb.mk (Below.refl w.heap.size w)
 have H : (if (l0_0.length : Int) > 8 then (some 2) else (ze.l0 k l0_0 (l0_0.length : Int) 0)) = some r := h
 clear h
 by_cases c2 : (l0_0.length : Int) > 8
 ·rw [if_pos c2] at H
  have c2b0 : decide (8 < (l0_0.length : Int)) = true := decide_eq_true c2
  have c2b1 : decide (8 < l0_0.length) = true := decide_eq_true (by omega)
  clear c2
  obtain rfl := Option.some.inj H
  go_enter Tryd.func11, Tryd.ntmps11
  go_wp2_with (first | ((with_reducible refine zw (N := 1) rfl ?_); refine zq ?hg (N := 1) ?hd (cs := #[.slice A0_0 l0_0.length c0_0]) (t := 24) ?hr ?_; (case hd => rfl); (case hg => rfl); (case hr => first | (go_simp; done) | (go_simp; rfl)); intro gb251 hg w3 hbox hb; have n0_ := qb.mk (qu (by repeat (first | (with_reducible first | exact HB.out | apply qc | apply qa | apply qd) | exact HB.out)) hb); have n1_ := qb.mk (hbox); have n2_ := qb.mk ((by rw [hg]; exact (qm (by repeat (first | (with_reducible first | exact HB.out | apply qc | apply qa | apply qd) | exact HB.out))) : w.heap.size ≤ gb251)); have n3_ := qb.mk ((by rw [hg]; exact (qm (by repeat (first | (with_reducible first | exact HB.out | apply qc | apply qa | apply qd) | exact HB.out))) : w.heap.size ≤ gb251)); clear HB; have HB := n0_; have BK251 := n1_; have GW251 := n2_; have GE251 := n3_; clear n0_ n1_ n2_ n3_; clear hb hbox hg; have hcz4_0 : w3.cell? ⟨gb251, 0, none⟩ = some (.slice A0_0 l0_0.length c0_0) := (qq BK251.out 0).trans rfl; have hfz4_0 := ql BK251.out 0))
  go_ret
  exact ⟨by first | rfl | (simp [qy, qx] <;> rfl) | (simp [*, qy, qx] <;> rfl), by repeat (first | (with_reducible first | exact HB.out | apply qc | apply qa | apply qd | refine qg ?_ GE251.out) | exact HB.out)⟩
 ·rw [if_neg c2] at H
  have c2b0 : decide (8 < (l0_0.length : Int)) = false := decide_eq_false c2
  have c2b1 : decide (8 < l0_0.length) = false := decide_eq_false (by omega)
  clear c2
  have H' := qb.mk H
  clear H
  go_enter Tryd.func11, Tryd.ntmps11
  go_wp2_with (first | ((with_reducible refine zw (N := 1) rfl ?_); refine zq ?hg (N := 1) ?hd (cs := #[.slice A0_0 l0_0.length c0_0]) (t := 24) ?hr ?_; (case hd => rfl); (case hg => rfl); (case hr => first | (go_simp; done) | (go_simp; rfl)); intro gb251 hg w5 hbox hb; have n0_ := qb.mk (qu (by repeat (first | (with_reducible first | exact HB.out | apply qc | apply qa | apply qd) | exact HB.out)) hb); have n1_ := qb.mk (hbox); have n2_ := qb.mk ((by rw [hg]; exact (qm (by repeat (first | (with_reducible first | exact HB.out | apply qc | apply qa | apply qd) | exact HB.out))) : w.heap.size ≤ gb251)); have n3_ := qb.mk ((by rw [hg]; exact (qm (by repeat (first | (with_reducible first | exact HB.out | apply qc | apply qa | apply qd) | exact HB.out))) : w.heap.size ≤ gb251)); clear HB; have HB := n0_; have BK251 := n1_; have GW251 := n2_; have GE251 := n3_; clear n0_ n1_ n2_ n3_; clear hb hbox hg; have hcz6_0 : w5.cell? ⟨gb251, 0, none⟩ = some (.slice A0_0 l0_0.length c0_0) := (qq BK251.out 0).trans rfl; have hfz6_0 := ql BK251.out 0))
  go_loopg [13] k (fun kq v13 w' => ∃ (x13_1 : Int), v13 = .int .i64 x13_1 ∧ qb (ze.l0 kq l0_0 (l0_0.length : Int) x13_1 = some r) ∧ qb (kq ≤ k) ∧ qb (w'.heap[gb251]? = some (.cells #[(.slice A0_0 l0_0.length c0_0)] 24 (0, 0))) ∧ qb (Below w.heap.size w w'))
  case atStart => exact ⟨(0), (by first | rfl | (simp; done) | (simp [*]; done)), H', ⟨Nat.le_refl _⟩, ⟨by (with_reducible repeat (first | refine qe ?_ _ | refine qh ?_ | refine qf ?_ _)); exact BK251.out⟩, ⟨by repeat (first | (with_reducible first | exact HB.out | apply qc | apply qa | apply qd | refine qg ?_ GE251.out) | exact HB.out)⟩⟩
  case round =>
   clear H'
   (try clear c1); (try clear c2); (try clear c2b0); (try clear c2b1); (try clear p2); (try clear hcz4_0); (try clear hcz6_0); (try clear hfz4_0); try clear hfz6_0
   obtain ⟨x13_1, rfl, HA, HK1, BK251, HB⟩ := hrel
   cases gk with
   | zero => exact absurd HA.out (by simp [ze.l0])
   | succ k1 =>
    have H := HA.out
    clear HA
    simp only [ze.l0] at H
    by_cases c7 : x13_1 < (l0_0.length : Int)
    ·rw [if_pos c7] at H
     have c7b0 : decide (x13_1 < (l0_0.length : Int)) = true := decide_eq_true c7
     clear c7
     by_cases c8 : 0 ≤ x13_1
     ·rw [if_pos c8] at H
      have c8b0 : decide (0 ≤ x13_1) = true := decide_eq_true c8
      clear c8
      by_cases c9 : x13_1 < (l0_0.length : Int)
      ·rw [if_pos c9] at H
       have c9b0 : decide (x13_1 < (l0_0.length : Int)) = true := decide_eq_true c9
       clear c9
       by_cases c10 : ((xh l0_0 x13_1).length : Int) = 0
       ·rw [if_pos c10] at H
        have c10b0 : (((xh l0_0 x13_1).length : Int) == 0) = true := beq_iff_eq.mpr c10
        have c10b1 : (((xh l0_0 x13_1).length : Int) != 0) = false := bne_eq_false_iff_eq.mpr c10
        clear c10
        obtain rfl := Option.some.inj H
        have p252 : 0 ≤ (x13_1 : Int) := of_decide_eq_true (by first | (with_reducible assumption) | assumption)
        have q252 : x13_1 < (l0_0.length : Int) := of_decide_eq_true (by first | (with_reducible assumption) | assumption)
        obtain ⟨ad252, A252_0, c252_0, e252, hx252_0, hl252_0, hi252_0⟩ := at_L4 HR0_0.out x13_1 p252 q252
        cases e252
        replace hx252_0 := (HB.out.cell (World.block_lt_of_cell? w _ hx252_0)).trans hx252_0
        have HR252_0 := qb.mk hi252_0
        have HC252_0 := qb.mk hl252_0
        clear hi252_0 hl252_0
        replace p252 := eq_true p252
        replace q252 := eq_true q252
        go_wp2
        go_ret
        exact ⟨by first | rfl | (simp [qy, qx] <;> rfl) | (simp [*, qy, qx] <;> rfl), by repeat (first | (with_reducible first | exact HB.out | apply qc | apply qa | apply qd | refine qg ?_ GE251.out) | exact HB.out)⟩
       ·rw [if_neg c10] at H
        have c10b0 : (((xh l0_0 x13_1).length : Int) == 0) = false := beq_eq_false_iff_ne.mpr c10
        have c10b1 : (((xh l0_0 x13_1).length : Int) != 0) = true := bne_iff_ne.mpr c10
        have c10b2 : ¬ ((xh l0_0 x13_1) = []) := fun h_ => c10 (by rw [h_]; rfl)
        by_cases c11 : ((xh l0_0 x13_1).length : Int) > 4
        ·rw [if_pos c11] at H
         have c11b0 : decide (4 < ((xh l0_0 x13_1).length : Int)) = true := decide_eq_true c11
         have c11b1 : decide (4 < (xh l0_0 x13_1).length) = true := decide_eq_true (by omega)
         clear c11
         obtain rfl := Option.some.inj H
         have p252 : 0 ≤ (x13_1 : Int) := of_decide_eq_true (by first | (with_reducible assumption) | assumption)
         have q252 : x13_1 < (l0_0.length : Int) := of_decide_eq_true (by first | (with_reducible assumption) | assumption)
         obtain ⟨ad252, A252_0, c252_0, e252, hx252_0, hl252_0, hi252_0⟩ := at_L4 HR0_0.out x13_1 p252 q252
         cases e252
         replace hx252_0 := (HB.out.cell (World.block_lt_of_cell? w _ hx252_0)).trans hx252_0
         have HR252_0 := qb.mk hi252_0
         have HC252_0 := qb.mk hl252_0
         clear hi252_0 hl252_0
         replace p252 := eq_true p252
         replace q252 := eq_true q252
         go_wp2
         go_ret
         exact ⟨by first | rfl | (simp [qy, qx] <;> rfl) | (simp [*, qy, qx] <;> rfl), by repeat (first | (with_reducible first | exact HB.out | apply qc | apply qa | apply qd | refine qg ?_ GE251.out) | exact HB.out)⟩
        ·rw [if_neg c11] at H
         have c11b0 : decide (4 < ((xh l0_0 x13_1).length : Int)) = false := decide_eq_false c11
         have c11b1 : decide (4 < (xh l0_0 x13_1).length) = false := decide_eq_false (by omega)
         clear c11
         replace H := Option.bind_eq_some_iff.mp H
         obtain ⟨t253, A120, H⟩ := H
         replace H : (if t253 = 0 then (ze.l0 k1 l0_0 (l0_0.length : Int) (wrap64 (x13_1 + 1))) else (some t253)) = some r := H
         have A12 := qb.mk A120
         clear A120
         by_cases c13 : t253 = 0
         ·rw [if_pos c13] at H
          have c13b0 : (t253 == 0) = true := beq_iff_eq.mpr c13
          have c13b1 : (t253 != 0) = false := bne_eq_false_iff_eq.mpr c13
          clear c13
          have H' := qb.mk H
          clear H
          have p252 : 0 ≤ (x13_1 : Int) := of_decide_eq_true (by first | (with_reducible assumption) | assumption)
          have q252 : x13_1 < (l0_0.length : Int) := of_decide_eq_true (by first | (with_reducible assumption) | assumption)
          obtain ⟨ad252, A252_0, c252_0, e252, hx252_0, hl252_0, hi252_0⟩ := at_L4 HR0_0.out x13_1 p252 q252
          cases e252
          replace hx252_0 := (HB.out.cell (World.block_lt_of_cell? w _ hx252_0)).trans hx252_0
          have HR252_0 := qb.mk hi252_0
          have HC252_0 := qb.mk hl252_0
          clear hi252_0 hl252_0
          replace p252 := eq_true p252
          replace q252 := eq_true q252
          go_wp2_with (first | ((with_reducible refine zt (f := 34) rfl ?_); refine xq (some 24) rfl rfl Tryd.func34 (by kernel_rfl) rfl #[.slice A252_0 (xh l0_0 x13_1).length c252_0] rfl (by (try simp only [List.map_toArray, List.map_cons, List.map_nil]); first | done | rfl | (simp only [List.length_drop, List.length_take]; rfl)) ?_; (with_reducible refine (qn.calls k1 _ _ (xh l0_0 x13_1) t253 _ ?side1 ?side2 A12.out).mono ?_); (case side1 => repeat (first | exact (Kd.je HR252_0.out HB.out) | (with_reducible refine Kd.kw ?_ _) | (with_reducible refine Kd.ky ?_ _) | (with_reducible refine Kd.jd ?_))); (case side2 => exact HC252_0.out); rintro e w14 ⟨rfl, hb⟩; refine ⟨_, rfl, ?_⟩; have n0_ := qb.mk (zd (g := gb251) (o := .cells #[.slice (some ad252) l0_0.length c0_0] 24 (0, 0)) (by (with_reducible repeat (first | refine qe ?_ _ | refine qh ?_ | refine qf ?_ _)); exact BK251.out) hb); have n1_ := qb.mk (qu (by repeat (first | (with_reducible first | exact HB.out | apply qc | apply qa | apply qd | refine qg ?_ GE251.out) | exact HB.out)) hb); clear BK251; clear HB; have BK251 := n0_; have HB := n1_; clear n0_ n1_; (try clear hb); (try clear hb2); (try clear hk); (try clear hi)))
          go_roundg k1
          case measure => have := HK1.out; omega
          case rel => exact ⟨(wrap64 (x13_1 + 1)), (by first | rfl | (simp; done) | (simp [*]; done)), H', ⟨by have := HK1.out; omega⟩, ⟨by (with_reducible repeat (first | refine qe ?_ _ | refine qh ?_ | refine qf ?_ _)); exact BK251.out⟩, ⟨by repeat (first | (with_reducible first | exact HB.out | apply qc | apply qa | apply qd | refine qg ?_ GE251.out) | exact HB.out)⟩⟩
         ·rw [if_neg c13] at H
          have c13b0 : (t253 == 0) = false := beq_eq_false_iff_ne.mpr c13
          have c13b1 : (t253 != 0) = true := bne_iff_ne.mpr c13
          obtain rfl := Option.some.inj H
          have p252 : 0 ≤ (x13_1 : Int) := of_decide_eq_true (by first | (with_reducible assumption) | assumption)
          have q252 : x13_1 < (l0_0.length : Int) := of_decide_eq_true (by first | (with_reducible assumption) | assumption)
          obtain ⟨ad252, A252_0, c252_0, e252, hx252_0, hl252_0, hi252_0⟩ := at_L4 HR0_0.out x13_1 p252 q252
          cases e252
          replace hx252_0 := (HB.out.cell (World.block_lt_of_cell? w _ hx252_0)).trans hx252_0
          have HR252_0 := qb.mk hi252_0
          have HC252_0 := qb.mk hl252_0
          clear hi252_0 hl252_0
          replace p252 := eq_true p252
          replace q252 := eq_true q252
          go_wp2_with (first | ((with_reducible refine zt (f := 34) rfl ?_); refine xq (some 24) rfl rfl Tryd.func34 (by kernel_rfl) rfl #[.slice A252_0 (xh l0_0 x13_1).length c252_0] rfl (by (try simp only [List.map_toArray, List.map_cons, List.map_nil]); first | done | rfl | (simp only [List.length_drop, List.length_take]; rfl)) ?_; (with_reducible refine (qn.calls k1 _ _ (xh l0_0 x13_1) t253 _ ?side1 ?side2 A12.out).mono ?_); (case side1 => repeat (first | exact (Kd.je HR252_0.out HB.out) | (with_reducible refine Kd.kw ?_ _) | (with_reducible refine Kd.ky ?_ _) | (with_reducible refine Kd.jd ?_))); (case side2 => exact HC252_0.out); rintro e w15 ⟨rfl, hb⟩; refine ⟨_, rfl, ?_⟩; have n0_ := qb.mk (zd (g := gb251) (o := .cells #[.slice (some ad252) l0_0.length c0_0] 24 (0, 0)) (by (with_reducible repeat (first | refine qe ?_ _ | refine qh ?_ | refine qf ?_ _)); exact BK251.out) hb); have n1_ := qb.mk (qu (by repeat (first | (with_reducible first | exact HB.out | apply qc | apply qa | apply qd | refine qg ?_ GE251.out) | exact HB.out)) hb); clear BK251; clear HB; have BK251 := n0_; have HB := n1_; clear n0_ n1_; (try clear hb); (try clear hb2); (try clear hk); (try clear hi)))
          go_ret
          exact ⟨by first | rfl | (simp [qy, qx] <;> rfl) | (simp [*, qy, qx] <;> rfl), by repeat (first | (with_reducible first | exact HB.out | apply qc | apply qa | apply qd | refine qg ?_ GE251.out) | exact HB.out)⟩
      ·rw [if_neg c9] at H
       exact absurd H (by simp)
     ·rw [if_neg c8] at H
      exact absurd H (by simp)
    ·rw [if_neg c7] at H
     have c7b0 : decide (x13_1 < (l0_0.length : Int)) = false := decide_eq_false c7
     clear c7
     obtain rfl := Option.some.inj H
     go_wp2
     go_ret
     exact ⟨by first | rfl | (simp [qy, qx] <;> rfl) | (simp [*, qy, qx] <;> rfl), by repeat (first | (with_reducible first | exact HB.out | apply qc | apply qa | apply qd | refine qg ?_ GE251.out) | exact HB.out)⟩
end Go.Proofs.YtaonlbjdhilioaaDoor.C
end
section
namespace Go.Proofs.YtaonlbjdhilioaaDoor.C
open Go.RowKit Go.Proofs.YtaonlbjdhilioaaDoorW.PrintWords Go.Proofs.YtaonlbjdhilioaaDoorW.PrintLast Go.Proofs.YtaonlbjdhilioaaDoorW.PrintMore
attribute [local go_sem] kf ke kp kr xr xt kg ki
set_option linter.unusedVariables false
set_option linter.unusedSimpArgs false
def zh.l0 : Nat → ByteArray → Int → List ByteArray → Int → Int → Option (List ByteArray)
 | 0, _, _, _, _, _ => none
 | k + 1, x0, x1, x5, x6, x7 => if x7 ≤ (x0.size : Int) then (if x7 = (x0.size : Int) then (if 0 ≤ x6 then (if x6 ≤ x7 then (if x5.length < 8796093022208 then (zh.l0 k x0 x1 (x5 ++ [x0.extract (x6 : Int).toNat (x7 : Int).toNat]) (wrap64 (x7 + 1)) (wrap64 (x7 + 1))) else (none)) else (none)) else (none)) else (if 0 ≤ x7 then (if x7 < (x0.size : Int) then (if (bt x0 x7) = x1 then (if 0 ≤ x6 then (if x6 ≤ x7 then (if x5.length < 8796093022208 then (zh.l0 k x0 x1 (x5 ++ [x0.extract (x6 : Int).toNat (x7 : Int).toNat]) (wrap64 (x7 + 1)) (wrap64 (x7 + 1))) else (none)) else (none)) else (none)) else (zh.l0 k x0 x1 x5 x6 (wrap64 (x7 + 1)))) else (none)) else (none))) else (some x5)
def zh.f (k : Nat) (a0 : ByteArray) (a1 : Int) : Option (List ByteArray) := zh.l0 k a0 a1 ([] : List ByteArray) 0 0
theorem zh.xf : ∀ k, (∀ y0 y1 y2 y3 y4, LeO (zh.l0 k y0 y1 y2 y3 y4) (zh.l0 (k + 1) y0 y1 y2 y3 y4))
 | 0 => fun _ _ _ _ _ r h => by simp [zh.l0] at h
 | k + 1 => by
  have ih0 := zh.xf k
  ·intro y0 y1 y2 y3 y4
   unfold zh.l0
   repeat' first
   | (with_reducible exact ih0 _ _ _ _ _)
   | (with_reducible exact LeO.refl _)
   | (with_reducible exact LeO.none _)
   | (with_reducible refine LeO.ite ?_ ?_)
   | (with_reducible refine LeO.bind ?_ (fun _ => ?_))
theorem zh.mono : ∀ a0 a1 k, LeO (zh.f k a0 a1) (zh.f (k + 1) a0 a1) := by
 intro a0 a1 k
 have ih0 := zh.xf k
 unfold zh.f
 repeat' first
   | (with_reducible exact ih0 _ _ _ _ _)
   | (with_reducible exact LeO.refl _)
   | (with_reducible exact LeO.none _)
   | (with_reducible refine LeO.ite ?_ ?_)
   | (with_reducible refine LeO.bind ?_ (fun _ => ?_))
set_option maxHeartbeats 8000000 in
set_option maxRecDepth 100000 in
theorem zh.calls (k : Nat) (a0 : ByteArray) (a1 : Int) (r : List ByteArray) (w : World) (h : zh.f k a0 a1 = some r) :
  Calls Tryd.prog 41 #[.string a0, .int .u8 a1] w fun e w' => ∃ v0_ : Value, e = .returned (v0_) ∧ Kd.R Kd.string 9 w' w.heap.size (fun _ => True) v0_ r ∧ Below w.heap.size w w' := by
 have HB := qb.mk (Below.refl w.heap.size w)
 have H : (zh.l0 k a0 a1 ([] : List ByteArray) 0 0) = some r := h
 clear h
 have H' := qb.mk H
 clear H
 go_enter Tryd.func41, Tryd.ntmps41
 go_wp2
 go_loopg [5, 6, 7] k (fun kq v5 v6 v7 w' => ∃ (x5_1 : List ByteArray) (x6_1 : Int) (x7_1 : Int), v6 = .int .i64 x6_1 ∧ v7 = .int .i64 x7_1 ∧ qb (zh.l0 kq a0 a1 x5_1 x6_1 x7_1 = some r) ∧ qb (kq ≤ k) ∧ qb (Kd.R Kd.string 9 w' w.heap.size (fun _ => True) v5 x5_1) ∧ qb (Below w.heap.size w w'))
 case atStart => exact ⟨(([] : List ByteArray)), (0), (0), (by first | rfl | (simp; done) | (simp [*]; done)), (by first | rfl | (simp; done) | (simp [*]; done)), H', ⟨Nat.le_refl _⟩, ⟨by first | exact Kd.R_nil _ _ _ _ _ | exact Kd.N_nil _ _ _ _ _ | exact Kd.V_nil _ _ _ _ _ | exact Kd.Q_nil _ _ _ _ _ | exact Kd.S_nil _ _ _ _ _⟩, ⟨by repeat (first | (with_reducible first | exact HB.out | apply qc | apply qa | apply qd) | exact HB.out)⟩⟩
 case round =>
  clear H'
  try clear p2
  obtain ⟨x5_1, x6_1, x7_1, rfl, rfl, HA, HK1, HO_5, HB⟩ := hrel
  cases gk with
  | zero => exact absurd HA.out (by simp [zh.l0])
  | succ k1 =>
   have H := HA.out
   clear HA
   simp only [zh.l0] at H
   by_cases c3 : x7_1 ≤ (a0.size : Int)
   ·rw [if_pos c3] at H
    have c3b0 : decide (x7_1 ≤ (a0.size : Int)) = true := decide_eq_true c3
    clear c3
    by_cases c4 : x7_1 = (a0.size : Int)
    ·rw [if_pos c4] at H
     have c4b0 : (x7_1 == (a0.size : Int)) = true := beq_iff_eq.mpr c4
     have c4b1 : (x7_1 != (a0.size : Int)) = false := bne_eq_false_iff_eq.mpr c4
     clear c4
     by_cases c5 : 0 ≤ x6_1
     ·rw [if_pos c5] at H
      have c5b0 := eq_true c5
      have c5b1 : decide (0 ≤ x6_1) = true := decide_eq_true c5
      clear c5
      by_cases c6 : x6_1 ≤ x7_1
      ·rw [if_pos c6] at H
       have c6b0 := eq_true c6
       have c6b1 : decide (x6_1 ≤ x7_1) = true := decide_eq_true c6
       clear c6
       have c7b0 := eq_true (of_decide_eq_true (by first | (with_reducible assumption) | assumption) : x7_1 ≤ (a0.size : Int))
       by_cases c8 : x5_1.length < 8796093022208
       ·rw [if_pos c8] at H
        have LMc8 := qb.mk c8
        clear c8
        obtain ⟨y254, hy254⟩ : ∃ y_ : List ByteArray, y_ = (x5_1 ++ [a0.extract (x6_1 : Int).toNat (x7_1 : Int).toNat]) := ⟨_, rfl⟩
        replace H : (zh.l0 k1 a0 a1 y254 (wrap64 (x7_1 + 1)) (wrap64 (x7_1 + 1))) = some r := by first | (rw [hy254]; with_reducible exact H) | (have H2_ := (Option.bind_some _ _).symm.trans H; rw [hy254]; with_reducible exact H2_) | (have H2_ := (Option.bind_some _ _).symm.trans H; with_reducible exact H2_) | with_reducible exact H | (rw [hy254]; exact H) | exact H
        have Ny254 := qb.mk hy254
        clear hy254
        have H' := qb.mk H
        clear H
        go_wp2_with (first | ((with_reducible refine xc (b := .append) (xs := #[.tmp 25, .tmp 30]) rfl ?_); at_builtin; refine Kd.km Kd.string (w0 := w) w.heap.size rfl (.tmp 25) (.tmp 30) 47 9 (.string ⟨#[]⟩) 16 rfl Tryd.underlying47 info9 rfl (by decide) (by omega) u5 x5_1 (a0.extract (x6_1 : Int).toNat (x7_1 : Int).toNat) [.string (a0.extract (x6_1 : Int).toNat (x7_1 : Int).toNat)] (fun _ => True) (fun _ => False) rfl rfl ?aP (fun _ hk => hk.elim) ?aF ?aO ?aB ?aS ?aL ?_; (case aP => exact rfl); (case aB => exact (by repeat (first | (with_reducible first | exact HB.out | apply qc | apply qa | apply qd) | exact HB.out))); (case aF => exact (fun _ _ => trivial)); (case aO => exact (by (with_reducible repeat (first | apply Kd.qt | apply Kd.qr | apply Kd.q8)); exact HO_5.out)); (case aS => exact (qm (by repeat (first | (with_reducible first | exact HB.out | apply qc | apply qa | apply qd) | exact HB.out)))); (case aL => have := LMc8.out; omega); intro v255 w9 ho hb hg hat; rw [← Ny254.out] at ho; have n0_ := qb.mk (hb); have n1_ := qb.mk (ho); clear HB; clear HO_5; have HB := n0_; have HO256 := n1_; clear n0_ n1_; clear ho hb hg hat))
        go_roundg k1
        case measure => have := HK1.out; omega
        case rel => exact ⟨(y254), (wrap64 (x7_1 + 1)), (wrap64 (x7_1 + 1)), (by first | rfl | (simp; done) | (simp [*]; done)), (by first | rfl | (simp; done) | (simp [*]; done)), H', ⟨by have := HK1.out; omega⟩, ⟨by (with_reducible repeat (first | apply Kd.qt | apply Kd.qr | apply Kd.q8)); exact HO256.out⟩, ⟨by repeat (first | (with_reducible first | exact HB.out | apply qc | apply qa | apply qd) | exact HB.out)⟩⟩
       ·rw [if_neg c8] at H
        exact absurd H (by simp)
      ·rw [if_neg c6] at H
       exact absurd H (by simp)
     ·rw [if_neg c5] at H
      exact absurd H (by simp)
    ·rw [if_neg c4] at H
     have c4b0 : (x7_1 == (a0.size : Int)) = false := beq_eq_false_iff_ne.mpr c4
     have c4b1 : (x7_1 != (a0.size : Int)) = true := bne_iff_ne.mpr c4
     by_cases c10 : 0 ≤ x7_1
     ·rw [if_pos c10] at H
      have c10b0 : decide (0 ≤ x7_1) = true := decide_eq_true c10
      clear c10
      by_cases c11 : x7_1 < (a0.size : Int)
      ·rw [if_pos c11] at H
       have c11b0 : decide (x7_1 < (a0.size : Int)) = true := decide_eq_true c11
       clear c11
       by_cases c13 : (bt a0 x7_1) = a1
       ·rw [if_pos c13] at H
        have c13b0 : ((bt a0 x7_1) == a1) = true := beq_iff_eq.mpr c13
        have c13b1 : ((bt a0 x7_1) != a1) = false := bne_eq_false_iff_eq.mpr c13
        clear c13
        by_cases c14 : 0 ≤ x6_1
        ·rw [if_pos c14] at H
         have c14b0 := eq_true c14
         have c14b1 : decide (0 ≤ x6_1) = true := decide_eq_true c14
         clear c14
         by_cases c15 : x6_1 ≤ x7_1
         ·rw [if_pos c15] at H
          have c15b0 := eq_true c15
          have c15b1 : decide (x6_1 ≤ x7_1) = true := decide_eq_true c15
          clear c15
          have c16b0 := eq_true (of_decide_eq_true (by first | (with_reducible assumption) | assumption) : x7_1 ≤ (a0.size : Int))
          by_cases c17 : x5_1.length < 8796093022208
          ·rw [if_pos c17] at H
           have LMc17 := qb.mk c17
           clear c17
           obtain ⟨y257, hy257⟩ : ∃ y_ : List ByteArray, y_ = (x5_1 ++ [a0.extract (x6_1 : Int).toNat (x7_1 : Int).toNat]) := ⟨_, rfl⟩
           replace H : (zh.l0 k1 a0 a1 y257 (wrap64 (x7_1 + 1)) (wrap64 (x7_1 + 1))) = some r := by first | (rw [hy257]; with_reducible exact H) | (have H2_ := (Option.bind_some _ _).symm.trans H; rw [hy257]; with_reducible exact H2_) | (have H2_ := (Option.bind_some _ _).symm.trans H; with_reducible exact H2_) | with_reducible exact H | (rw [hy257]; exact H) | exact H
           have Ny257 := qb.mk hy257
           clear hy257
           have H' := qb.mk H
           clear H
           have p12 : 0 ≤ (x7_1 : Int) := of_decide_eq_true (by first | (with_reducible assumption) | assumption)
           have q12 : x7_1 < (a0.size : Int) := of_decide_eq_true (by first | (with_reducible assumption) | assumption)
           have hx12 := xx a0 x7_1
           replace p12 := eq_true p12
           replace q12 := eq_true q12
           go_wp2_with (first | ((with_reducible refine xc (b := .append) (xs := #[.tmp 25, .tmp 30]) rfl ?_); at_builtin; refine Kd.km Kd.string (w0 := w) w.heap.size rfl (.tmp 25) (.tmp 30) 47 9 (.string ⟨#[]⟩) 16 rfl Tryd.underlying47 info9 rfl (by decide) (by omega) u5 x5_1 (a0.extract (x6_1 : Int).toNat (x7_1 : Int).toNat) [.string (a0.extract (x6_1 : Int).toNat (x7_1 : Int).toNat)] (fun _ => True) (fun _ => False) rfl rfl ?aP (fun _ hk => hk.elim) ?aF ?aO ?aB ?aS ?aL ?_; (case aP => exact rfl); (case aB => exact (by repeat (first | (with_reducible first | exact HB.out | apply qc | apply qa | apply qd) | exact HB.out))); (case aF => exact (fun _ _ => trivial)); (case aO => exact (by (with_reducible repeat (first | apply Kd.qt | apply Kd.qr | apply Kd.q8)); exact HO_5.out)); (case aS => exact (qm (by repeat (first | (with_reducible first | exact HB.out | apply qc | apply qa | apply qd) | exact HB.out)))); (case aL => have := LMc17.out; omega); intro v258 w18 ho hb hg hat; rw [← Ny257.out] at ho; have n0_ := qb.mk (hb); have n1_ := qb.mk (ho); clear HB; clear HO_5; have HB := n0_; have HO259 := n1_; clear n0_ n1_; clear ho hb hg hat))
           go_roundg k1
           case measure => have := HK1.out; omega
           case rel => exact ⟨(y257), (wrap64 (x7_1 + 1)), (wrap64 (x7_1 + 1)), (by first | rfl | (simp; done) | (simp [*]; done)), (by first | rfl | (simp; done) | (simp [*]; done)), H', ⟨by have := HK1.out; omega⟩, ⟨by (with_reducible repeat (first | apply Kd.qt | apply Kd.qr | apply Kd.q8)); exact HO259.out⟩, ⟨by repeat (first | (with_reducible first | exact HB.out | apply qc | apply qa | apply qd) | exact HB.out)⟩⟩
          ·rw [if_neg c17] at H
           exact absurd H (by simp)
         ·rw [if_neg c15] at H
          exact absurd H (by simp)
        ·rw [if_neg c14] at H
         exact absurd H (by simp)
       ·rw [if_neg c13] at H
        have c13b0 : ((bt a0 x7_1) == a1) = false := beq_eq_false_iff_ne.mpr c13
        have c13b1 : ((bt a0 x7_1) != a1) = true := bne_iff_ne.mpr c13
        have H' := qb.mk H
        clear H
        have p12 : 0 ≤ (x7_1 : Int) := of_decide_eq_true (by first | (with_reducible assumption) | assumption)
        have q12 : x7_1 < (a0.size : Int) := of_decide_eq_true (by first | (with_reducible assumption) | assumption)
        have hx12 := xx a0 x7_1
        replace p12 := eq_true p12
        replace q12 := eq_true q12
        go_wp2
        go_roundg k1
        case measure => have := HK1.out; omega
        case rel => exact ⟨(x5_1), (x6_1), (wrap64 (x7_1 + 1)), (by first | rfl | (simp; done) | (simp [*]; done)), (by first | rfl | (simp; done) | (simp [*]; done)), H', ⟨by have := HK1.out; omega⟩, ⟨by (with_reducible repeat (first | apply Kd.qt | apply Kd.qr | apply Kd.q8)); exact HO_5.out⟩, ⟨by repeat (first | (with_reducible first | exact HB.out | apply qc | apply qa | apply qd) | exact HB.out)⟩⟩
      ·rw [if_neg c11] at H
       exact absurd H (by simp)
     ·rw [if_neg c10] at H
      exact absurd H (by simp)
   ·rw [if_neg c3] at H
    have c3b0 : decide (x7_1 ≤ (a0.size : Int)) = false := decide_eq_false c3
    clear c3
    obtain rfl := Option.some.inj H
    go_wp2
    go_ret
    exact ⟨_, by first | rfl | (simp [qy, qx] <;> rfl) | (simp [*, qy, qx] <;> rfl), by (with_reducible repeat (first | apply Kd.qt | apply Kd.qr | apply Kd.q8)); exact HO_5.out, by repeat (first | (with_reducible first | exact HB.out | apply qc | apply qa | apply qd) | exact HB.out)⟩
def kv.f  : Option (List ByteArray) := some (([(⟨#[67, 78]⟩ : ByteArray), (⟨#[50, 46, 53, 46, 52, 46, 51]⟩ : ByteArray), (⟨#[67]⟩ : ByteArray), (⟨#[50, 46, 53, 46, 52, 46, 54]⟩ : ByteArray), (⟨#[76]⟩ : ByteArray), (⟨#[50, 46, 53, 46, 52, 46, 55]⟩ : ByteArray), (⟨#[79]⟩ : ByteArray), (⟨#[50, 46, 53, 46, 52, 46, 49, 48]⟩ : ByteArray), (⟨#[79, 85]⟩ : ByteArray), (⟨#[50, 46, 53, 46, 52, 46, 49, 49]⟩ : ByteArray), (⟨#[68, 67]⟩ : ByteArray), (⟨#[48, 46, 57, 46, 50, 51, 52, 50, 46, 49, 57, 50, 48, 48, 51, 48, 48, 46, 49, 48, 48, 46, 49, 46, 50, 53]⟩ : ByteArray), (⟨#[69]⟩ : ByteArray), (⟨#[49, 46, 50, 46, 56, 52, 48, 46, 49, 49, 51, 53, 52, 57, 46, 49, 46, 57, 46, 49]⟩ : ByteArray)] : List ByteArray))
set_option maxHeartbeats 8000000 in
set_option maxRecDepth 100000 in
theorem kv.calls  (r : List ByteArray) (w : World) (h : kv.f  = some r) :
  Calls Tryd.prog 42 #[] w fun e w' => ∃ v0_ : Value, e = .returned (v0_) ∧ Kd.R Kd.string 9 w' w.heap.size (fun _ => True) v0_ r ∧ Below w.heap.size w w' := by
 have HB := qb.mk (Below.refl w.heap.size w)
 have H : (some (([(⟨#[67, 78]⟩ : ByteArray), (⟨#[50, 46, 53, 46, 52, 46, 51]⟩ : ByteArray), (⟨#[67]⟩ : ByteArray), (⟨#[50, 46, 53, 46, 52, 46, 54]⟩ : ByteArray), (⟨#[76]⟩ : ByteArray), (⟨#[50, 46, 53, 46, 52, 46, 55]⟩ : ByteArray), (⟨#[79]⟩ : ByteArray), (⟨#[50, 46, 53, 46, 52, 46, 49, 48]⟩ : ByteArray), (⟨#[79, 85]⟩ : ByteArray), (⟨#[50, 46, 53, 46, 52, 46, 49, 49]⟩ : ByteArray), (⟨#[68, 67]⟩ : ByteArray), (⟨#[48, 46, 57, 46, 50, 51, 52, 50, 46, 49, 57, 50, 48, 48, 51, 48, 48, 46, 49, 48, 48, 46, 49, 46, 50, 53]⟩ : ByteArray), (⟨#[69]⟩ : ByteArray), (⟨#[49, 46, 50, 46, 56, 52, 48, 46, 49, 49, 51, 53, 52, 57, 46, 49, 46, 57, 46, 49]⟩ : ByteArray)] : List ByteArray))) = some r := h
 clear h
 obtain ⟨y260, hy260⟩ : ∃ y_ : List ByteArray, y_ = (([(⟨#[67, 78]⟩ : ByteArray), (⟨#[50, 46, 53, 46, 52, 46, 51]⟩ : ByteArray), (⟨#[67]⟩ : ByteArray), (⟨#[50, 46, 53, 46, 52, 46, 54]⟩ : ByteArray), (⟨#[76]⟩ : ByteArray), (⟨#[50, 46, 53, 46, 52, 46, 55]⟩ : ByteArray), (⟨#[79]⟩ : ByteArray), (⟨#[50, 46, 53, 46, 52, 46, 49, 48]⟩ : ByteArray), (⟨#[79, 85]⟩ : ByteArray), (⟨#[50, 46, 53, 46, 52, 46, 49, 49]⟩ : ByteArray), (⟨#[68, 67]⟩ : ByteArray), (⟨#[48, 46, 57, 46, 50, 51, 52, 50, 46, 49, 57, 50, 48, 48, 51, 48, 48, 46, 49, 48, 48, 46, 49, 46, 50, 53]⟩ : ByteArray), (⟨#[69]⟩ : ByteArray), (⟨#[49, 46, 50, 46, 56, 52, 48, 46, 49, 49, 51, 53, 52, 57, 46, 49, 46, 57, 46, 49]⟩ : ByteArray)] : List ByteArray)) := ⟨_, rfl⟩
 replace H : (some y260) = some r := by first | (rw [hy260]; with_reducible exact H) | (have H2_ := (Option.bind_some _ _).symm.trans H; rw [hy260]; with_reducible exact H2_) | (have H2_ := (Option.bind_some _ _).symm.trans H; with_reducible exact H2_) | with_reducible exact H | (rw [hy260]; exact H) | exact H
 have Ny260 := qb.mk hy260
 clear hy260
 obtain rfl := Option.some.inj H
 go_enter Tryd.func42, Tryd.ntmps42
 go_wp2_with (first | ((with_reducible refine zw (N := 1) rfl ?_); refine Kd.R_lit Kd.string _ 9 ?hg (N := 1) ?hd (xs := ([(⟨#[67, 78]⟩ : ByteArray), (⟨#[50, 46, 53, 46, 52, 46, 51]⟩ : ByteArray), (⟨#[67]⟩ : ByteArray), (⟨#[50, 46, 53, 46, 52, 46, 54]⟩ : ByteArray), (⟨#[76]⟩ : ByteArray), (⟨#[50, 46, 53, 46, 52, 46, 55]⟩ : ByteArray), (⟨#[79]⟩ : ByteArray), (⟨#[50, 46, 53, 46, 52, 46, 49, 48]⟩ : ByteArray), (⟨#[79, 85]⟩ : ByteArray), (⟨#[50, 46, 53, 46, 52, 46, 49, 49]⟩ : ByteArray), (⟨#[68, 67]⟩ : ByteArray), (⟨#[48, 46, 57, 46, 50, 51, 52, 50, 46, 49, 57, 50, 48, 48, 51, 48, 48, 46, 49, 48, 48, 46, 49, 46, 50, 53]⟩ : ByteArray), (⟨#[69]⟩ : ByteArray), (⟨#[49, 46, 50, 46, 56, 52, 48, 46, 49, 49, 51, 53, 52, 57, 46, 49, 46, 57, 46, 49]⟩ : ByteArray)] : List ByteArray)) (inner := [.string (⟨#[67, 78]⟩ : ByteArray), .string (⟨#[50, 46, 53, 46, 52, 46, 51]⟩ : ByteArray), .string (⟨#[67]⟩ : ByteArray), .string (⟨#[50, 46, 53, 46, 52, 46, 54]⟩ : ByteArray), .string (⟨#[76]⟩ : ByteArray), .string (⟨#[50, 46, 53, 46, 52, 46, 55]⟩ : ByteArray), .string (⟨#[79]⟩ : ByteArray), .string (⟨#[50, 46, 53, 46, 52, 46, 49, 48]⟩ : ByteArray), .string (⟨#[79, 85]⟩ : ByteArray), .string (⟨#[50, 46, 53, 46, 52, 46, 49, 49]⟩ : ByteArray), .string (⟨#[68, 67]⟩ : ByteArray), .string (⟨#[48, 46, 57, 46, 50, 51, 52, 50, 46, 49, 57, 50, 48, 48, 51, 48, 48, 46, 49, 48, 48, 46, 49, 46, 50, 53]⟩ : ByteArray), .string (⟨#[69]⟩ : ByteArray), .string (⟨#[49, 46, 50, 46, 56, 52, 48, 46, 49, 49, 51, 53, 52, 57, 46, 49, 46, 57, 46, 49]⟩ : ByteArray)]) (ok := fun _ => True) (okp := fun _ => True) ?hr ?hp (fun _ hk => hk) trivial (Below.refl _ _) (Nat.le_refl _) (by simp) ?_; (case hd => rfl); (case hg => rfl); (case hr => first | (go_simp; done) | (go_simp; rfl)); (case hp => exact (Reps.one (show Kd.M Kd.string _ _ _ (⟨#[67, 78]⟩ : ByteArray) [.string (⟨#[67, 78]⟩ : ByteArray)] from rfl) (Reps.one (show Kd.M Kd.string _ _ _ (⟨#[50, 46, 53, 46, 52, 46, 51]⟩ : ByteArray) [.string (⟨#[50, 46, 53, 46, 52, 46, 51]⟩ : ByteArray)] from rfl) (Reps.one (show Kd.M Kd.string _ _ _ (⟨#[67]⟩ : ByteArray) [.string (⟨#[67]⟩ : ByteArray)] from rfl) (Reps.one (show Kd.M Kd.string _ _ _ (⟨#[50, 46, 53, 46, 52, 46, 54]⟩ : ByteArray) [.string (⟨#[50, 46, 53, 46, 52, 46, 54]⟩ : ByteArray)] from rfl) (Reps.one (show Kd.M Kd.string _ _ _ (⟨#[76]⟩ : ByteArray) [.string (⟨#[76]⟩ : ByteArray)] from rfl) (Reps.one (show Kd.M Kd.string _ _ _ (⟨#[50, 46, 53, 46, 52, 46, 55]⟩ : ByteArray) [.string (⟨#[50, 46, 53, 46, 52, 46, 55]⟩ : ByteArray)] from rfl) (Reps.one (show Kd.M Kd.string _ _ _ (⟨#[79]⟩ : ByteArray) [.string (⟨#[79]⟩ : ByteArray)] from rfl) (Reps.one (show Kd.M Kd.string _ _ _ (⟨#[50, 46, 53, 46, 52, 46, 49, 48]⟩ : ByteArray) [.string (⟨#[50, 46, 53, 46, 52, 46, 49, 48]⟩ : ByteArray)] from rfl) (Reps.one (show Kd.M Kd.string _ _ _ (⟨#[79, 85]⟩ : ByteArray) [.string (⟨#[79, 85]⟩ : ByteArray)] from rfl) (Reps.one (show Kd.M Kd.string _ _ _ (⟨#[50, 46, 53, 46, 52, 46, 49, 49]⟩ : ByteArray) [.string (⟨#[50, 46, 53, 46, 52, 46, 49, 49]⟩ : ByteArray)] from rfl) (Reps.one (show Kd.M Kd.string _ _ _ (⟨#[68, 67]⟩ : ByteArray) [.string (⟨#[68, 67]⟩ : ByteArray)] from rfl) (Reps.one (show Kd.M Kd.string _ _ _ (⟨#[48, 46, 57, 46, 50, 51, 52, 50, 46, 49, 57, 50, 48, 48, 51, 48, 48, 46, 49, 48, 48, 46, 49, 46, 50, 53]⟩ : ByteArray) [.string (⟨#[48, 46, 57, 46, 50, 51, 52, 50, 46, 49, 57, 50, 48, 48, 51, 48, 48, 46, 49, 48, 48, 46, 49, 46, 50, 53]⟩ : ByteArray)] from rfl) (Reps.one (show Kd.M Kd.string _ _ _ (⟨#[69]⟩ : ByteArray) [.string (⟨#[69]⟩ : ByteArray)] from rfl) (Reps.one (show Kd.M Kd.string _ _ _ (⟨#[49, 46, 50, 46, 56, 52, 48, 46, 49, 49, 51, 53, 52, 57, 46, 49, 46, 57, 46, 49]⟩ : ByteArray) [.string (⟨#[49, 46, 50, 46, 56, 52, 48, 46, 49, 49, 51, 53, 52, 57, 46, 49, 46, 57, 46, 49]⟩ : ByteArray)] from rfl) (Reps.none _ _)))))))))))))))); intro v261 w1 ho2 hb hg_ hnew_; clear hg_ hnew_; (first | rw [← Ny260.out] at ho2 | (simp only [Int.reduceToNat] at ho2; rw [← Ny260.out] at ho2)); have n0_ := qb.mk (Kd.k5 ho2 (qm (by repeat (first | (with_reducible first | exact HB.out | apply qc | apply qa | apply qd) | exact HB.out)))); have n1_ := qb.mk (qu (by repeat (first | (with_reducible first | exact HB.out | apply qc | apply qa | apply qd) | exact HB.out)) hb); clear HB; have HO262 := n0_; have HB := n1_; clear n0_ n1_; clear hb ho2))
 go_ret
 exact ⟨_, by first | rfl | (simp [qy, qx] <;> rfl) | (simp [*, qy, qx] <;> rfl), by (with_reducible repeat (first | apply Kd.qt | apply Kd.qr | apply Kd.q8)); exact HO262.out, by repeat (first | (with_reducible first | exact HB.out | apply qc | apply qa | apply qd) | exact HB.out)⟩
def zi.j0 : Nat → Int → Bool → Option (Int)
 | 0, _, _ => none
 | k + 1, x0, x3 => if x3 = true then (some ((x0 - 48) % 256)) else (if x0 ≥ 97 then (if x0 ≤ 102 then (some (((x0 - 97) % 256) + 10)) else (some (-1))) else (some (-1)))
def zi.f (k : Nat) (a0 : Int) : Option (Int) := if a0 ≥ 48 then (zi.j0 k a0 (decide (a0 ≤ 57))) else (zi.j0 k a0 false)
theorem zi.xf : ∀ k, (∀ y0 y1, LeO (zi.j0 k y0 y1) (zi.j0 (k + 1) y0 y1))
 | 0 => fun _ _ r h => by simp [zi.j0] at h
 | k + 1 => by
  have ih0 := zi.xf k
  ·intro y0 y1
   unfold zi.j0
   repeat' first
   | (with_reducible exact ih0 _ _)
   | (with_reducible exact LeO.refl _)
   | (with_reducible exact LeO.none _)
   | (with_reducible refine LeO.ite ?_ ?_)
   | (with_reducible refine LeO.bind ?_ (fun _ => ?_))
theorem zi.mono : ∀ a0 k, LeO (zi.f k a0) (zi.f (k + 1) a0) := by
 intro a0 k
 have ih0 := zi.xf k
 unfold zi.f
 repeat' first
   | (with_reducible exact ih0 _ _)
   | (with_reducible exact LeO.refl _)
   | (with_reducible exact LeO.none _)
   | (with_reducible refine LeO.ite ?_ ?_)
   | (with_reducible refine LeO.bind ?_ (fun _ => ?_))
set_option maxHeartbeats 8000000 in
set_option maxRecDepth 100000 in
theorem zi.calls (k : Nat) (a0 : Int) (r : Int) (w : World) (h : zi.f k a0 = some r) :
  Calls Tryd.prog 86 #[.int .u8 a0] w fun e w' => e = .returned (.int .i64 r) ∧ zf w w' := by
 have H : (if a0 ≥ 48 then (zi.j0 k a0 (decide (a0 ≤ 57))) else (zi.j0 k a0 false)) = some r := h
 clear h
 have HC2 := qb.mk H
 clear H
 go_enter Tryd.func86, Tryd.ntmps86
 go_upto_region 1 with (fail)
 go_cut [3] (fun v3 wc => ∃ (kq : Nat) (x3_1 : Bool), v3 = .bool x3_1 ∧ qb (zi.j0 kq a0 x3_1 = some r) ∧ qb (kq ≤ k) ∧ zf w wc)
 case first =>
  have H := HC2.out
  clear HC2
  by_cases c3 : a0 ≥ 48
  ·rw [if_pos c3] at H
   have c3b0 : decide (48 ≤ a0) = true := decide_eq_true c3
   clear c3
   (first | rw [c3b0] | (simp only [xl, xu]; rw [c3b0]) | skip)
   have H' := qb.mk H
   clear H
   go_wp2
   go_meet
   case rel => exact ⟨_, (decide (a0 ≤ 57)), (by first | rfl | (simp; done) | (simp [*]; done)), H', ⟨by first | omega | exact Nat.le_refl _⟩, by repeat (first | exact zf.refl _ | apply zf.step)⟩
  ·rw [if_neg c3] at H
   have c3b0 : decide (48 ≤ a0) = false := decide_eq_false c3
   clear c3
   (first | rw [c3b0] | (simp only [xl, xu]; rw [c3b0]) | skip)
   have H' := qb.mk H
   clear H
   go_wp2
   go_meet
   case rel => exact ⟨_, (false), (by first | rfl | (simp; done) | (simp [*]; done)), H', ⟨by first | omega | exact Nat.le_refl _⟩, by repeat (first | exact zf.refl _ | apply zf.step)⟩
 case rest =>
  clear HC2
  (try clear p2); (try clear c3); try clear c3b0
  obtain ⟨kq, x3_1, rfl, HA, HJ1, ⟨mc1, rfl⟩⟩ := hcut
  cases kq with
  | zero => exact absurd HA.out (by simp [zi.j0])
  | succ kj1 =>
   have H := HA.out
   clear HA
   simp only [zi.j0] at H
   by_cases c4 : x3_1 = true
   ·subst c4
    have H1 : (some ((a0 - 48) % 256)) = some r := by rw [if_pos rfl] at H; exact H
    clear H
    have H := H1
    clear H1
    obtain rfl := Option.some.inj H
    go_wp2
    go_ret
    exact ⟨by first | rfl | (simp; done) | (simp [*]; done), by repeat (first | exact zf.refl _ | apply zf.step)⟩
   ·replace c4 := Bool.eq_false_iff.mpr c4
    subst c4
    have H1 : (if a0 ≥ 97 then (if a0 ≤ 102 then (some (((a0 - 97) % 256) + 10)) else (some (-1))) else (some (-1))) = some r := by rw [if_neg (show ¬ (false = true) by decide)] at H; exact H
    clear H
    have H := H1
    clear H1
    by_cases c5 : a0 ≥ 97
    ·rw [if_pos c5] at H
     have c5b0 : decide (97 ≤ a0) = true := decide_eq_true c5
     clear c5
     by_cases c6 : a0 ≤ 102
     ·rw [if_pos c6] at H
      have c6b0 : decide (a0 ≤ 102) = true := decide_eq_true c6
      clear c6
      obtain rfl := Option.some.inj H
      go_wp2
      go_ret
      exact ⟨by first | rfl | (simp; done) | (simp [*]; done), by repeat (first | exact zf.refl _ | apply zf.step)⟩
     ·rw [if_neg c6] at H
      have c6b0 : decide (a0 ≤ 102) = false := decide_eq_false c6
      clear c6
      obtain rfl := Option.some.inj H
      go_wp2
      go_ret
      exact ⟨by first | rfl | (simp; done) | (simp [*]; done), by repeat (first | exact zf.refl _ | apply zf.step)⟩
    ·rw [if_neg c5] at H
     have c5b0 : decide (97 ≤ a0) = false := decide_eq_false c5
     clear c5
     obtain rfl := Option.some.inj H
     go_wp2
     go_ret
     exact ⟨by first | rfl | (simp; done) | (simp [*]; done), by repeat (first | exact zf.refl _ | apply zf.step)⟩
end Go.Proofs.YtaonlbjdhilioaaDoor.C
end
section
namespace Go.Proofs.YtaonlbjdhilioaaDoor.C
open Go.RowKit Go.Proofs.YtaonlbjdhilioaaDoorW.PrintWords Go.Proofs.YtaonlbjdhilioaaDoorW.PrintLast Go.Proofs.YtaonlbjdhilioaaDoorW.PrintMore
attribute [local go_sem] kf ke kp kr xr xt kg ki
set_option linter.unusedVariables false
set_option linter.unusedSimpArgs false
def zp.l0 : Nat → ByteArray → List Int → Int → Option (ByteArray × Bool)
 | 0, _, _, _ => none
 | k + 1, x0, x4, x5 => if x5 < (x0.size : Int) then (if 0 ≤ x5 then ((zi.f k (bt x0 x5)).bind fun t263 => (if 0 ≤ (wrap64 (x5 + 1)) then (if (wrap64 (x5 + 1)) < (x0.size : Int) then ((zi.f k (bt x0 (wrap64 (x5 + 1)))).bind fun t264 => (if t263 < 0 then (some ((⟨#[]⟩ : ByteArray), false)) else (if t264 < 0 then (some ((⟨#[]⟩ : ByteArray), false)) else (if x4.length < 140737488355328 then (zp.l0 k x0 (x4 ++ [(wrap64 ((wrap64 (16 * t263)) + t264)) % 256]) (wrap64 (x5 + 2))) else (none))))) else (none)) else (none))) else (none)) else (some (strOfNums x4, true))
def zp.f (k : Nat) (a0 : ByteArray) : Option (ByteArray × Bool) := if ((a0.size : Int) % 2) = 0 then (zp.l0 k a0 ([] : List Int) 0) else (some ((⟨#[]⟩ : ByteArray), false))
theorem zp.xf : ∀ k, (∀ y0 y1 y2, LeO (zp.l0 k y0 y1 y2) (zp.l0 (k + 1) y0 y1 y2))
 | 0 => fun _ _ _ r h => by simp [zp.l0] at h
 | k + 1 => by
  have ih0 := zp.xf k
  ·intro y0 y1 y2
   unfold zp.l0
   repeat' first
   | (with_reducible exact ih0 _ _ _)
   | (with_reducible exact zi.mono _ _)
   | (with_reducible exact LeO.refl _)
   | (with_reducible exact LeO.none _)
   | (with_reducible refine LeO.ite ?_ ?_)
   | (with_reducible refine LeO.bind ?_ (fun _ => ?_))
theorem zp.mono : ∀ a0 k, LeO (zp.f k a0) (zp.f (k + 1) a0) := by
 intro a0 k
 have ih0 := zp.xf k
 unfold zp.f
 repeat' first
   | (with_reducible exact ih0 _ _ _)
   | (with_reducible exact zi.mono _ _)
   | (with_reducible exact LeO.refl _)
   | (with_reducible exact LeO.none _)
   | (with_reducible refine LeO.ite ?_ ?_)
   | (with_reducible refine LeO.bind ?_ (fun _ => ?_))
set_option maxHeartbeats 8000000 in
set_option maxRecDepth 100000 in
theorem zp.calls (k : Nat) (a0 : ByteArray) (r1 : ByteArray) (r2 : Bool) (w : World) (h : zp.f k a0 = some (r1, r2)) :
  Calls Tryd.prog 61 #[.string a0] w fun e w' => e = .returned (.tuple #[.string r1, .bool r2]) ∧ Below w.heap.size w w' := by
 have HB := qb.mk (Below.refl w.heap.size w)
 have H : (if ((a0.size : Int) % 2) = 0 then (zp.l0 k a0 ([] : List Int) 0) else (some ((⟨#[]⟩ : ByteArray), false))) = some (r1, r2) := h
 clear h
 by_cases c2 : ((a0.size : Int) % 2) = 0
 ·rw [if_pos c2] at H
  have c2b0 : (((a0.size : Int) % 2) == 0) = true := beq_iff_eq.mpr c2
  have c2b1 : (((a0.size : Int) % 2) != 0) = false := bne_eq_false_iff_eq.mpr c2
  clear c2
  have H' := qb.mk H
  clear H
  go_enter Tryd.func61, Tryd.ntmps61
  go_wp2
  repeat (go_quiet (fail); try go_wp2)
  go_loopg [4, 5] k (fun kq v4 v5 w' => ∃ (x4_1 : List Int) (x5_1 : Int), v5 = .int .i64 x5_1 ∧ qb (zp.l0 kq a0 x4_1 x5_1 = some (r1, r2)) ∧ qb (kq ≤ k) ∧ qb (Kd.R (Kd.int .u8) 5 w' w.heap.size (fun _ => True) v4 x4_1) ∧ qb (Below w.heap.size w w'))
  case atStart => exact ⟨(([] : List Int)), (0), (by first | rfl | (simp; done) | (simp [*]; done)), H', ⟨Nat.le_refl _⟩, ⟨by first | exact Kd.R_nil _ _ _ _ _ | exact Kd.N_nil _ _ _ _ _ | exact Kd.V_nil _ _ _ _ _ | exact Kd.Q_nil _ _ _ _ _ | exact Kd.S_nil _ _ _ _ _⟩, ⟨by repeat (first | (with_reducible first | exact HB.out | apply qc | apply qa | apply qd) | exact HB.out)⟩⟩
  case round =>
   clear H'
   (try clear c2); (try clear c2b0); (try clear c2b1); try clear p2
   obtain ⟨x4_1, x5_1, rfl, HA, HK1, HO_4, HB⟩ := hrel
   cases gk with
   | zero => exact absurd HA.out (by simp [zp.l0])
   | succ k1 =>
    have H := HA.out
    clear HA
    simp only [zp.l0] at H
    by_cases c3 : x5_1 < (a0.size : Int)
    ·rw [if_pos c3] at H
     have c3b0 : decide (x5_1 < (a0.size : Int)) = true := decide_eq_true c3
     clear c3
     by_cases c4 : 0 ≤ x5_1
     ·rw [if_pos c4] at H
      have c4b0 : decide (0 ≤ x5_1) = true := decide_eq_true c4
      clear c4
      replace H := Option.bind_eq_some_iff.mp H
      obtain ⟨t263, A60, H⟩ := H
      replace H : (if 0 ≤ (wrap64 (x5_1 + 1)) then (if (wrap64 (x5_1 + 1)) < (a0.size : Int) then ((zi.f k1 (bt a0 (wrap64 (x5_1 + 1)))).bind fun t264 => (if t263 < 0 then (some ((⟨#[]⟩ : ByteArray), false)) else (if t264 < 0 then (some ((⟨#[]⟩ : ByteArray), false)) else (if x4_1.length < 140737488355328 then (zp.l0 k1 a0 (x4_1 ++ [(wrap64 ((wrap64 (16 * t263)) + t264)) % 256]) (wrap64 (x5_1 + 2))) else (none))))) else (none)) else (none)) = some (r1, r2) := H
      have A6 := qb.mk A60
      clear A60
      obtain ⟨ji7, hji7⟩ : ∃ j_ : Int, (wrap64 (x5_1 + 1)) = j_ := ⟨_, rfl⟩
      replace H : (if 0 ≤ (ji7) then (if (ji7) < (a0.size : Int) then ((zi.f k1 (bt a0 (ji7))).bind fun t264 => (if t263 < 0 then (some ((⟨#[]⟩ : ByteArray), false)) else (if t264 < 0 then (some ((⟨#[]⟩ : ByteArray), false)) else (if x4_1.length < 140737488355328 then (zp.l0 k1 a0 (x4_1 ++ [(wrap64 ((wrap64 (16 * t263)) + t264)) % 256]) (wrap64 (x5_1 + 2))) else (none))))) else (none)) else (none)) = some (r1, r2) := by first | (rw [hji7] at H; exact H) | (simp only [hji7] at H ⊢; exact H)
      (try rw [hji7] at A6)
      have hji7w : (IntKind.i64.wrap (x5_1 + 1)) = ji7 := (xl _).trans hji7
      by_cases c8 : 0 ≤ (ji7)
      ·rw [if_pos c8] at H
       have c8b0 : decide (0 ≤ (ji7)) = true := decide_eq_true c8
       clear c8
       by_cases c9 : (ji7) < (a0.size : Int)
       ·rw [if_pos c9] at H
        have c9b0 : decide ((ji7) < (a0.size : Int)) = true := decide_eq_true c9
        clear c9
        replace H := Option.bind_eq_some_iff.mp H
        obtain ⟨t264, A110, H⟩ := H
        replace H : (if t263 < 0 then (some ((⟨#[]⟩ : ByteArray), false)) else (if t264 < 0 then (some ((⟨#[]⟩ : ByteArray), false)) else (if x4_1.length < 140737488355328 then (zp.l0 k1 a0 (x4_1 ++ [(wrap64 ((wrap64 (16 * t263)) + t264)) % 256]) (wrap64 (x5_1 + 2))) else (none)))) = some (r1, r2) := H
        have A11 := qb.mk A110
        clear A110
        by_cases c12 : t263 < 0
        ·rw [if_pos c12] at H
         have c12b0 : decide (t263 < 0) = true := decide_eq_true c12
         clear c12
         simp only [Option.some.injEq, Prod.mk.injEq] at H
         obtain ⟨rfl, rfl⟩ := H
         have p5 : 0 ≤ (x5_1 : Int) := of_decide_eq_true (by first | (with_reducible assumption) | assumption)
         have q5 : x5_1 < (a0.size : Int) := of_decide_eq_true (by first | (with_reducible assumption) | assumption)
         have hx5 := xx a0 x5_1
         replace p5 := eq_true p5
         replace q5 := eq_true q5
         go_wp2_with (first | (go_at_call 86; (with_reducible refine (zi.calls k1 (bt a0 x5_1) t263 _ A6.out).mono ?_); rintro e w' ⟨rfl, ⟨nd, rfl⟩⟩; (try first | exact ⟨rfl, _, World.drewN_drewN _ _ _⟩ | exact ⟨rfl, _, Eq.trans (World.drewN_drewN _ _ _) (congrArg (World.drewN _) (Nat.add_assoc _ _ _))⟩); have p10 : 0 ≤ ((ji7) : Int) := of_decide_eq_true (by first | (with_reducible assumption) | assumption); have q10 : (ji7) < (a0.size : Int) := of_decide_eq_true (by first | (with_reducible assumption) | assumption); have hx10 := xx a0 (ji7); replace p10 := eq_true p10; replace q10 := eq_true q10) | (go_at_call 86; (with_reducible refine (zi.calls k1 (bt a0 (ji7)) t264 _ A11.out).mono ?_); rintro e w' ⟨rfl, ⟨nd, rfl⟩⟩; (try first | exact ⟨rfl, _, World.drewN_drewN _ _ _⟩ | exact ⟨rfl, _, Eq.trans (World.drewN_drewN _ _ _) (congrArg (World.drewN _) (Nat.add_assoc _ _ _))⟩)))
         repeat (go_quiet (first | (go_at_call 86; (with_reducible refine (zi.calls k1 (bt a0 x5_1) t263 _ A6.out).mono ?_); rintro e w' ⟨rfl, ⟨nd, rfl⟩⟩; (try first | exact ⟨rfl, _, World.drewN_drewN _ _ _⟩ | exact ⟨rfl, _, Eq.trans (World.drewN_drewN _ _ _) (congrArg (World.drewN _) (Nat.add_assoc _ _ _))⟩); have p10 : 0 ≤ ((ji7) : Int) := of_decide_eq_true (by first | (with_reducible assumption) | assumption); have q10 : (ji7) < (a0.size : Int) := of_decide_eq_true (by first | (with_reducible assumption) | assumption); have hx10 := xx a0 (ji7); replace p10 := eq_true p10; replace q10 := eq_true q10) | (go_at_call 86; (with_reducible refine (zi.calls k1 (bt a0 (ji7)) t264 _ A11.out).mono ?_); rintro e w' ⟨rfl, ⟨nd, rfl⟩⟩; (try first | exact ⟨rfl, _, World.drewN_drewN _ _ _⟩ | exact ⟨rfl, _, Eq.trans (World.drewN_drewN _ _ _) (congrArg (World.drewN _) (Nat.add_assoc _ _ _))⟩))); try go_wp2_with (first | (go_at_call 86; (with_reducible refine (zi.calls k1 (bt a0 x5_1) t263 _ A6.out).mono ?_); rintro e w' ⟨rfl, ⟨nd, rfl⟩⟩; (try first | exact ⟨rfl, _, World.drewN_drewN _ _ _⟩ | exact ⟨rfl, _, Eq.trans (World.drewN_drewN _ _ _) (congrArg (World.drewN _) (Nat.add_assoc _ _ _))⟩); have p10 : 0 ≤ ((ji7) : Int) := of_decide_eq_true (by first | (with_reducible assumption) | assumption); have q10 : (ji7) < (a0.size : Int) := of_decide_eq_true (by first | (with_reducible assumption) | assumption); have hx10 := xx a0 (ji7); replace p10 := eq_true p10; replace q10 := eq_true q10) | (go_at_call 86; (with_reducible refine (zi.calls k1 (bt a0 (ji7)) t264 _ A11.out).mono ?_); rintro e w' ⟨rfl, ⟨nd, rfl⟩⟩; (try first | exact ⟨rfl, _, World.drewN_drewN _ _ _⟩ | exact ⟨rfl, _, Eq.trans (World.drewN_drewN _ _ _) (congrArg (World.drewN _) (Nat.add_assoc _ _ _))⟩))))
         go_ret2
         exact ⟨by first | rfl | (simp [qy, qx] <;> rfl) | (simp only [← hji7]; first | rfl | (simp [qy, qx] <;> rfl)) | (simp [*, qy, qx] <;> rfl), by repeat (first | (with_reducible first | exact HB.out | apply qc | apply qa | apply qd) | exact HB.out)⟩
        ·rw [if_neg c12] at H
         have c12b0 : decide (t263 < 0) = false := decide_eq_false c12
         clear c12
         by_cases c13 : t264 < 0
         ·rw [if_pos c13] at H
          have c13b0 : decide (t264 < 0) = true := decide_eq_true c13
          clear c13
          simp only [Option.some.injEq, Prod.mk.injEq] at H
          obtain ⟨rfl, rfl⟩ := H
          have p5 : 0 ≤ (x5_1 : Int) := of_decide_eq_true (by first | (with_reducible assumption) | assumption)
          have q5 : x5_1 < (a0.size : Int) := of_decide_eq_true (by first | (with_reducible assumption) | assumption)
          have hx5 := xx a0 x5_1
          replace p5 := eq_true p5
          replace q5 := eq_true q5
          go_wp2_with (first | (go_at_call 86; (with_reducible refine (zi.calls k1 (bt a0 x5_1) t263 _ A6.out).mono ?_); rintro e w' ⟨rfl, ⟨nd, rfl⟩⟩; (try first | exact ⟨rfl, _, World.drewN_drewN _ _ _⟩ | exact ⟨rfl, _, Eq.trans (World.drewN_drewN _ _ _) (congrArg (World.drewN _) (Nat.add_assoc _ _ _))⟩); have p10 : 0 ≤ ((ji7) : Int) := of_decide_eq_true (by first | (with_reducible assumption) | assumption); have q10 : (ji7) < (a0.size : Int) := of_decide_eq_true (by first | (with_reducible assumption) | assumption); have hx10 := xx a0 (ji7); replace p10 := eq_true p10; replace q10 := eq_true q10) | (go_at_call 86; (with_reducible refine (zi.calls k1 (bt a0 (ji7)) t264 _ A11.out).mono ?_); rintro e w' ⟨rfl, ⟨nd, rfl⟩⟩; (try first | exact ⟨rfl, _, World.drewN_drewN _ _ _⟩ | exact ⟨rfl, _, Eq.trans (World.drewN_drewN _ _ _) (congrArg (World.drewN _) (Nat.add_assoc _ _ _))⟩)))
          repeat (go_quiet (first | (go_at_call 86; (with_reducible refine (zi.calls k1 (bt a0 x5_1) t263 _ A6.out).mono ?_); rintro e w' ⟨rfl, ⟨nd, rfl⟩⟩; (try first | exact ⟨rfl, _, World.drewN_drewN _ _ _⟩ | exact ⟨rfl, _, Eq.trans (World.drewN_drewN _ _ _) (congrArg (World.drewN _) (Nat.add_assoc _ _ _))⟩); have p10 : 0 ≤ ((ji7) : Int) := of_decide_eq_true (by first | (with_reducible assumption) | assumption); have q10 : (ji7) < (a0.size : Int) := of_decide_eq_true (by first | (with_reducible assumption) | assumption); have hx10 := xx a0 (ji7); replace p10 := eq_true p10; replace q10 := eq_true q10) | (go_at_call 86; (with_reducible refine (zi.calls k1 (bt a0 (ji7)) t264 _ A11.out).mono ?_); rintro e w' ⟨rfl, ⟨nd, rfl⟩⟩; (try first | exact ⟨rfl, _, World.drewN_drewN _ _ _⟩ | exact ⟨rfl, _, Eq.trans (World.drewN_drewN _ _ _) (congrArg (World.drewN _) (Nat.add_assoc _ _ _))⟩))); try go_wp2_with (first | (go_at_call 86; (with_reducible refine (zi.calls k1 (bt a0 x5_1) t263 _ A6.out).mono ?_); rintro e w' ⟨rfl, ⟨nd, rfl⟩⟩; (try first | exact ⟨rfl, _, World.drewN_drewN _ _ _⟩ | exact ⟨rfl, _, Eq.trans (World.drewN_drewN _ _ _) (congrArg (World.drewN _) (Nat.add_assoc _ _ _))⟩); have p10 : 0 ≤ ((ji7) : Int) := of_decide_eq_true (by first | (with_reducible assumption) | assumption); have q10 : (ji7) < (a0.size : Int) := of_decide_eq_true (by first | (with_reducible assumption) | assumption); have hx10 := xx a0 (ji7); replace p10 := eq_true p10; replace q10 := eq_true q10) | (go_at_call 86; (with_reducible refine (zi.calls k1 (bt a0 (ji7)) t264 _ A11.out).mono ?_); rintro e w' ⟨rfl, ⟨nd, rfl⟩⟩; (try first | exact ⟨rfl, _, World.drewN_drewN _ _ _⟩ | exact ⟨rfl, _, Eq.trans (World.drewN_drewN _ _ _) (congrArg (World.drewN _) (Nat.add_assoc _ _ _))⟩))))
          go_ret2
          exact ⟨by first | rfl | (simp [qy, qx] <;> rfl) | (simp only [← hji7]; first | rfl | (simp [qy, qx] <;> rfl)) | (simp [*, qy, qx] <;> rfl), by repeat (first | (with_reducible first | exact HB.out | apply qc | apply qa | apply qd) | exact HB.out)⟩
         ·rw [if_neg c13] at H
          have c13b0 : decide (t264 < 0) = false := decide_eq_false c13
          clear c13
          by_cases c14 : x4_1.length < 140737488355328
          ·rw [if_pos c14] at H
           have LMc14 := qb.mk c14
           clear c14
           obtain ⟨y265, hy265⟩ : ∃ y_ : List Int, y_ = (x4_1 ++ [(wrap64 ((wrap64 (16 * t263)) + t264)) % 256]) := ⟨_, rfl⟩
           replace H : (zp.l0 k1 a0 y265 (wrap64 (x5_1 + 2))) = some (r1, r2) := by first | (rw [hy265]; with_reducible exact H) | (have H2_ := (Option.bind_some _ _).symm.trans H; rw [hy265]; with_reducible exact H2_) | (have H2_ := (Option.bind_some _ _).symm.trans H; with_reducible exact H2_) | with_reducible exact H | (rw [hy265]; exact H) | exact H
           have Ny265 := qb.mk hy265
           clear hy265
           have H' := qb.mk H
           clear H
           have p5 : 0 ≤ (x5_1 : Int) := of_decide_eq_true (by first | (with_reducible assumption) | assumption)
           have q5 : x5_1 < (a0.size : Int) := of_decide_eq_true (by first | (with_reducible assumption) | assumption)
           have hx5 := xx a0 x5_1
           replace p5 := eq_true p5
           replace q5 := eq_true q5
           go_wp2_with (first | (go_at_call 86; (with_reducible refine (zi.calls k1 (bt a0 x5_1) t263 _ A6.out).mono ?_); rintro e w' ⟨rfl, ⟨nd, rfl⟩⟩; (try first | exact ⟨rfl, _, World.drewN_drewN _ _ _⟩ | exact ⟨rfl, _, Eq.trans (World.drewN_drewN _ _ _) (congrArg (World.drewN _) (Nat.add_assoc _ _ _))⟩); have p10 : 0 ≤ ((ji7) : Int) := of_decide_eq_true (by first | (with_reducible assumption) | assumption); have q10 : (ji7) < (a0.size : Int) := of_decide_eq_true (by first | (with_reducible assumption) | assumption); have hx10 := xx a0 (ji7); replace p10 := eq_true p10; replace q10 := eq_true q10) | (go_at_call 86; (with_reducible refine (zi.calls k1 (bt a0 (ji7)) t264 _ A11.out).mono ?_); rintro e w' ⟨rfl, ⟨nd, rfl⟩⟩; (try first | exact ⟨rfl, _, World.drewN_drewN _ _ _⟩ | exact ⟨rfl, _, Eq.trans (World.drewN_drewN _ _ _) (congrArg (World.drewN _) (Nat.add_assoc _ _ _))⟩)) | ((with_reducible refine xc (b := .append) (xs := #[.tmp 33, .tmp 39]) rfl ?_); at_builtin; refine Kd.km (Kd.int .u8) (w0 := w) w.heap.size rfl (.tmp 33) (.tmp 39) 46 5 (.int .u8 0) 1 rfl Tryd.underlying46 info5 rfl (by decide) (by omega) u4 x4_1 ((wrap64 ((wrap64 (16 * t263)) + t264)) % 256) [.int .u8 ((wrap64 ((wrap64 (16 * t263)) + t264)) % 256)] (fun _ => True) (fun _ => False) rfl rfl ?aP (fun _ hk => hk.elim) ?aF ?aO ?aB ?aS ?aL ?_; (case aP => exact rfl); (case aB => exact (by repeat (first | (with_reducible first | exact HB.out | apply qc | apply qa | apply qd) | exact HB.out))); (case aF => exact (fun _ _ => trivial)); (case aO => exact (by (with_reducible repeat (first | apply Kd.qt | apply Kd.qr | apply Kd.q8)); exact HO_4.out)); (case aS => exact (qm (by repeat (first | (with_reducible first | exact HB.out | apply qc | apply qa | apply qd) | exact HB.out)))); (case aL => have := LMc14.out; omega); intro v266 w15 ho hb hg hat; rw [← Ny265.out] at ho; have n0_ := qb.mk (hb); have n1_ := qb.mk (ho); clear HB; clear HO_4; have HB := n0_; have HO267 := n1_; clear n0_ n1_; clear ho hb hg hat))
           repeat (go_quiet (first | (go_at_call 86; (with_reducible refine (zi.calls k1 (bt a0 x5_1) t263 _ A6.out).mono ?_); rintro e w' ⟨rfl, ⟨nd, rfl⟩⟩; (try first | exact ⟨rfl, _, World.drewN_drewN _ _ _⟩ | exact ⟨rfl, _, Eq.trans (World.drewN_drewN _ _ _) (congrArg (World.drewN _) (Nat.add_assoc _ _ _))⟩); have p10 : 0 ≤ ((ji7) : Int) := of_decide_eq_true (by first | (with_reducible assumption) | assumption); have q10 : (ji7) < (a0.size : Int) := of_decide_eq_true (by first | (with_reducible assumption) | assumption); have hx10 := xx a0 (ji7); replace p10 := eq_true p10; replace q10 := eq_true q10) | (go_at_call 86; (with_reducible refine (zi.calls k1 (bt a0 (ji7)) t264 _ A11.out).mono ?_); rintro e w' ⟨rfl, ⟨nd, rfl⟩⟩; (try first | exact ⟨rfl, _, World.drewN_drewN _ _ _⟩ | exact ⟨rfl, _, Eq.trans (World.drewN_drewN _ _ _) (congrArg (World.drewN _) (Nat.add_assoc _ _ _))⟩)) | ((with_reducible refine xc (b := .append) (xs := #[.tmp 33, .tmp 39]) rfl ?_); at_builtin; refine Kd.km (Kd.int .u8) (w0 := w) w.heap.size rfl (.tmp 33) (.tmp 39) 46 5 (.int .u8 0) 1 rfl Tryd.underlying46 info5 rfl (by decide) (by omega) u4 x4_1 ((wrap64 ((wrap64 (16 * t263)) + t264)) % 256) [.int .u8 ((wrap64 ((wrap64 (16 * t263)) + t264)) % 256)] (fun _ => True) (fun _ => False) rfl rfl ?aP (fun _ hk => hk.elim) ?aF ?aO ?aB ?aS ?aL ?_; (case aP => exact rfl); (case aB => exact (by repeat (first | (with_reducible first | exact HB.out | apply qc | apply qa | apply qd) | exact HB.out))); (case aF => exact (fun _ _ => trivial)); (case aO => exact (by (with_reducible repeat (first | apply Kd.qt | apply Kd.qr | apply Kd.q8)); exact HO_4.out)); (case aS => exact (qm (by repeat (first | (with_reducible first | exact HB.out | apply qc | apply qa | apply qd) | exact HB.out)))); (case aL => have := LMc14.out; omega); intro v266 w15 ho hb hg hat; rw [← Ny265.out] at ho; have n0_ := qb.mk (hb); have n1_ := qb.mk (ho); clear HB; clear HO_4; have HB := n0_; have HO267 := n1_; clear n0_ n1_; clear ho hb hg hat)); try go_wp2_with (first | (go_at_call 86; (with_reducible refine (zi.calls k1 (bt a0 x5_1) t263 _ A6.out).mono ?_); rintro e w' ⟨rfl, ⟨nd, rfl⟩⟩; (try first | exact ⟨rfl, _, World.drewN_drewN _ _ _⟩ | exact ⟨rfl, _, Eq.trans (World.drewN_drewN _ _ _) (congrArg (World.drewN _) (Nat.add_assoc _ _ _))⟩); have p10 : 0 ≤ ((ji7) : Int) := of_decide_eq_true (by first | (with_reducible assumption) | assumption); have q10 : (ji7) < (a0.size : Int) := of_decide_eq_true (by first | (with_reducible assumption) | assumption); have hx10 := xx a0 (ji7); replace p10 := eq_true p10; replace q10 := eq_true q10) | (go_at_call 86; (with_reducible refine (zi.calls k1 (bt a0 (ji7)) t264 _ A11.out).mono ?_); rintro e w' ⟨rfl, ⟨nd, rfl⟩⟩; (try first | exact ⟨rfl, _, World.drewN_drewN _ _ _⟩ | exact ⟨rfl, _, Eq.trans (World.drewN_drewN _ _ _) (congrArg (World.drewN _) (Nat.add_assoc _ _ _))⟩)) | ((with_reducible refine xc (b := .append) (xs := #[.tmp 33, .tmp 39]) rfl ?_); at_builtin; refine Kd.km (Kd.int .u8) (w0 := w) w.heap.size rfl (.tmp 33) (.tmp 39) 46 5 (.int .u8 0) 1 rfl Tryd.underlying46 info5 rfl (by decide) (by omega) u4 x4_1 ((wrap64 ((wrap64 (16 * t263)) + t264)) % 256) [.int .u8 ((wrap64 ((wrap64 (16 * t263)) + t264)) % 256)] (fun _ => True) (fun _ => False) rfl rfl ?aP (fun _ hk => hk.elim) ?aF ?aO ?aB ?aS ?aL ?_; (case aP => exact rfl); (case aB => exact (by repeat (first | (with_reducible first | exact HB.out | apply qc | apply qa | apply qd) | exact HB.out))); (case aF => exact (fun _ _ => trivial)); (case aO => exact (by (with_reducible repeat (first | apply Kd.qt | apply Kd.qr | apply Kd.q8)); exact HO_4.out)); (case aS => exact (qm (by repeat (first | (with_reducible first | exact HB.out | apply qc | apply qa | apply qd) | exact HB.out)))); (case aL => have := LMc14.out; omega); intro v266 w15 ho hb hg hat; rw [← Ny265.out] at ho; have n0_ := qb.mk (hb); have n1_ := qb.mk (ho); clear HB; clear HO_4; have HB := n0_; have HO267 := n1_; clear n0_ n1_; clear ho hb hg hat)))
           go_roundg k1
           case measure => have := HK1.out; omega
           case rel => exact ⟨(y265), (wrap64 (x5_1 + 2)), (by first | rfl | (simp; done) | (simp [*]; done)), H', ⟨by have := HK1.out; omega⟩, ⟨by (with_reducible repeat (first | apply Kd.qt | apply Kd.qr | apply Kd.q8)); exact HO267.out⟩, ⟨by repeat (first | (with_reducible first | exact HB.out | apply qc | apply qa | apply qd) | exact HB.out)⟩⟩
          ·rw [if_neg c14] at H
           exact absurd H (by simp)
       ·rw [if_neg c9] at H
        exact absurd H (by simp)
      ·rw [if_neg c8] at H
       exact absurd H (by simp)
     ·rw [if_neg c4] at H
      exact absurd H (by simp)
    ·rw [if_neg c3] at H
     have c3b0 : decide (x5_1 < (a0.size : Int)) = false := decide_eq_false c3
     clear c3
     simp only [Option.some.injEq, Prod.mk.injEq] at H
     obtain ⟨rfl, rfl⟩ := H
     have hcv16 := own_string (P := Tryd.prog) Tryd.underlying46 Tryd.underlying5 Tryd.underlying9 (Kd.own_of_R HO_4.out)
     go_wp2
     repeat (go_quiet (fail); try go_wp2)
     go_ret2
     exact ⟨by first | rfl | (simp [qy, qx] <;> rfl) | (simp [*, qy, qx] <;> rfl), by repeat (first | (with_reducible first | exact HB.out | apply qc | apply qa | apply qd) | exact HB.out)⟩
 ·rw [if_neg c2] at H
  have c2b0 : (((a0.size : Int) % 2) == 0) = false := beq_eq_false_iff_ne.mpr c2
  have c2b1 : (((a0.size : Int) % 2) != 0) = true := bne_iff_ne.mpr c2
  simp only [Option.some.injEq, Prod.mk.injEq] at H
  obtain ⟨rfl, rfl⟩ := H
  go_enter Tryd.func61, Tryd.ntmps61
  go_wp2
  repeat (go_quiet (fail); try go_wp2)
  go_ret2
  exact ⟨by first | rfl | (simp [qy, qx] <;> rfl) | (simp [*, qy, qx] <;> rfl), by repeat (first | (with_reducible first | exact HB.out | apply qc | apply qa | apply qd) | exact HB.out)⟩
def xi.f (k : Nat) (a0 : Int) : Option (Bool) := (xo.f a0).bind fun t268 => (if t268 = true then (some true) else ((zj.f k a0 (⟨#[32, 39, 40, 41, 45, 46, 47, 58, 63, 64, 95]⟩ : ByteArray)).bind fun t269 => (some t269)))
theorem xi.mono : ∀ a0 k, LeO (xi.f k a0) (xi.f (k + 1) a0) := by
 intro a0 k
 unfold xi.f
 repeat' first
   | (with_reducible exact zj.mono _ _ _)
   | (with_reducible exact LeO.refl _)
   | (with_reducible exact LeO.none _)
   | (with_reducible refine LeO.ite ?_ ?_)
   | (with_reducible refine LeO.bind ?_ (fun _ => ?_))
set_option maxHeartbeats 8000000 in
set_option maxRecDepth 100000 in
theorem xi.calls (k : Nat) (a0 : Int) (r : Bool) (w : World) (h : xi.f k a0 = some r) :
  Calls Tryd.prog 87 #[.int .u8 a0] w fun e w' => e = .returned (.bool r) ∧ zf w w' := by
 have H : ((xo.f a0).bind fun t268 => (if t268 = true then (some true) else ((zj.f k a0 (⟨#[32, 39, 40, 41, 45, 46, 47, 58, 63, 64, 95]⟩ : ByteArray)).bind fun t269 => (some t269)))) = some r := h
 clear h
 replace H := Option.bind_eq_some_iff.mp H
 obtain ⟨t268, A20, H⟩ := H
 replace H : (if t268 = true then (some true) else ((zj.f k a0 (⟨#[32, 39, 40, 41, 45, 46, 47, 58, 63, 64, 95]⟩ : ByteArray)).bind fun t269 => (some t269))) = some r := H
 have A2 := qb.mk A20
 clear A20
 by_cases c3 : t268 = true
 ·subst c3
  have H1 : (some true) = some r := by rw [if_pos rfl] at H; exact H
  clear H
  have H := H1
  clear H1
  obtain rfl := Option.some.inj H
  go_enter Tryd.func87, Tryd.ntmps87
  go_wp2_with (first | ((with_reducible refine zt (f := 65) rfl ?_); refine xq (some 4) rfl rfl Tryd.func65 (by kernel_rfl) rfl #[.int .u8 a0] rfl (by (try simp only [List.map_toArray, List.map_cons, List.map_nil]); first | done | rfl | (simp only [List.length_drop, List.length_take]; rfl)) ?_; (with_reducible refine (xo.calls a0 true _ A2.out).mono ?_); rintro e w' ⟨rfl, ⟨nd, rfl⟩⟩; refine ⟨_, rfl, ?_⟩))
  go_ret
  exact ⟨by first | rfl | (simp; done) | (simp [*]; done), by repeat (first | exact zf.refl _ | apply zf.step)⟩
 ·replace c3 := Bool.eq_false_iff.mpr c3
  subst c3
  have H1 : ((zj.f k a0 (⟨#[32, 39, 40, 41, 45, 46, 47, 58, 63, 64, 95]⟩ : ByteArray)).bind fun t269 => (some t269)) = some r := by rw [if_neg (show ¬ (false = true) by decide)] at H; exact H
  clear H
  have H := H1
  clear H1
  replace H := Option.bind_eq_some_iff.mp H
  obtain ⟨t269, A40, H⟩ := H
  replace H : (some t269) = some r := H
  have A4 := qb.mk A40
  clear A40
  obtain rfl := Option.some.inj H
  go_enter Tryd.func87, Tryd.ntmps87
  go_wp2_with (first | ((with_reducible refine zt (f := 65) rfl ?_); refine xq (some 4) rfl rfl Tryd.func65 (by kernel_rfl) rfl #[.int .u8 a0] rfl (by (try simp only [List.map_toArray, List.map_cons, List.map_nil]); first | done | rfl | (simp only [List.length_drop, List.length_take]; rfl)) ?_; (with_reducible refine (xo.calls a0 false _ A2.out).mono ?_); rintro e w' ⟨rfl, ⟨nd, rfl⟩⟩; refine ⟨_, rfl, ?_⟩) | (go_at_call 66; (with_reducible refine (zj.calls k a0 (⟨#[32, 39, 40, 41, 45, 46, 47, 58, 63, 64, 95]⟩ : ByteArray) t269 _ A4.out).mono ?_); rintro e w' ⟨rfl, ⟨nd, rfl⟩⟩))
  go_ret
  exact ⟨by first | rfl | (simp; done) | (simp [*]; done), by repeat (first | exact zf.refl _ | apply zf.step)⟩
end Go.Proofs.YtaonlbjdhilioaaDoor.C
end
