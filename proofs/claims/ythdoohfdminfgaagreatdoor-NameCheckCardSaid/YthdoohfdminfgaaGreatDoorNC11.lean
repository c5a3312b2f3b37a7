/- Words, walks and plain laws that the claim rests on, gathered. -/
import Derived.Below
import Derived.Deep.Draws
import Derived.Deep.AppendLies
import Derived.Maps.AppendAt
import Derived.OwnWalk
import Derived.Laws.BytesArg
import Derived.Laws.MakeOwn
import Derived.Laws.OwnMore
import Derived.Deep.OwnRows
import Derived.Tactics
import Derived.Lib.ConvBytes
import Derived.Laws.Slices
import Derived.WalkKit
import Derived.KernelRfl
import Derived.RowKit3
import Derived.Deep.LoopGhost
import Derived.Deep.QuietTactic
import Derived.BigQuiet
import Derived.WideLaws
import Derived.Deep.DeepCutAuto
import Derived.Deep.CutBlock
import Derived.Deep.RegionHeld3
import Derived.Laws.Rows
import Derived.Lib.AppendStr
import Derived.ArgAppend
import Derived.Laws.IdiomCopy
import Derived.RowKit
import Derived.Shelf.Strings.Builder1
import Derived.Shelf.Strings.Builder2
import Derived.Shelf.Strings.OnBuilder
import Derived.Shelf.Small.Bits
import Derived.Shelf.Small.Strs
import Derived.Shelf.Strconv.Itoa0
import Derived.Shelf.Strings.Search1
import Derived.Shelf.Strings.Search2
import Derived.Shelf.Strings.Search3
import Derived.Shelf.Strings.Cut
import Derived.Shelf.Strings.Count
import Derived.Shelf.LaysM
import Derived.Shelf.Strings.Shaped
import Derived.Shelf.Sort.Plain
import Derived.Shelf.Strings.Prefix
import Derived.Shelf.Strings.Split
import Derived.Shelf.Strings.SplitShaped
import Derived.Shelf.Unicode.DecodeSlow
import Derived.Shelf.Slices.In.SortNone
import Derived.Shelf.Slices.In.SortNone2
import Derived.Test.YthdoohfdminfgaaGreatDoorProg
import Derived.WalkSpells
import Derived.OrdersHeld
import Derived.Laws.BitsLemmas
import Derived.WalkLawsBesides
import Derived.Laws.StructEq
import Derived.Test.YthdoohfdminfgaaGreatDoorNC0
import Derived.Test.YthdoohfdminfgaaGreatDoorNC1
import Derived.Test.YthdoohfdminfgaaGreatDoorNC2
import Derived.Test.YthdoohfdminfgaaGreatDoorNC9
import Derived.Test.YthdoohfdminfgaaGreatDoorNC10
import Derived.Test.YthdoohfdminfgaaGreatDoorNCc
namespace Go.Proofs.YthdoohfdminfgaaGreatDoorW.PrintLast
end Go.Proofs.YthdoohfdminfgaaGreatDoorW.PrintLast
namespace Go.Proofs.YthdoohfdminfgaaGreatDoorW.PrintMore
end Go.Proofs.YthdoohfdminfgaaGreatDoorW.PrintMore
namespace Go.Proofs.YthdoohfdminfgaaGreatDoorW.PrintWords
end Go.Proofs.YthdoohfdminfgaaGreatDoorW.PrintWords
section
namespace Go.Proofs.YthdoohfdminfgaaGreatDoor.C
open Go.RowKit Go.Proofs.YthdoohfdminfgaaGreatDoorW.PrintWords Go.Proofs.YthdoohfdminfgaaGreatDoorW.PrintLast Go.Proofs.YthdoohfdminfgaaGreatDoorW.PrintMore
attribute [local go_sem] kc xy kr ks xh xg xz xx
set_option linter.unusedVariables false
set_option linter.unusedSimpArgs false
def zg.l0 : Nat → List (List (S40)) → Int → Int → Option (Int)
 | 0, _, _, _ => none
 | k + 1, x11, x12, x13 => if x13 < x12 then (if 0 ≤ x13 then (if x13 < (x11.length : Int) then (if ((zz x11 x13).length : Int) = 0 then (some 14) else (if ((zz x11 x13).length : Int) > 4 then (some 2) else ((qn.f k (zz x11 x13)).bind fun t246 => (if t246 = 0 then (zg.l0 k x11 x12 (wrap64 (x13 + 1))) else (some t246))))) else (none)) else (none)) else (some 0)
def zg.f (k : Nat) (l0_0 : List (List (S40))) : Option (Int) := if (l0_0.length : Int) > 8 then (some 2) else (zg.l0 k l0_0 (l0_0.length : Int) 0)
theorem zg.xl : ∀ k, (∀ y0 y1 y2, LeO (zg.l0 k y0 y1 y2) (zg.l0 (k + 1) y0 y1 y2))
 | 0 => fun _ _ _ r h => by simp [zg.l0] at h
 | k + 1 => by
  have ih0 := zg.xl k
  ·intro y0 y1 y2
   unfold zg.l0
   repeat' first
   | (with_reducible exact ih0 _ _ _)
   | (with_reducible exact qn.mono _ _)
   | (with_reducible exact LeO.refl _)
   | (with_reducible exact LeO.none _)
   | (with_reducible refine LeO.ite ?_ ?_)
   | (with_reducible refine LeO.bind ?_ (fun _ => ?_))
theorem zg.mono : ∀ a0 k, LeO (zg.f k a0) (zg.f (k + 1) a0) := by
 intro a0 k
 have ih0 := zg.xl k
 unfold zg.f
 repeat' first
   | (with_reducible exact ih0 _ _ _)
   | (with_reducible exact qn.mono _ _)
   | (with_reducible exact LeO.refl _)
   | (with_reducible exact LeO.none _)
   | (with_reducible refine LeO.ite ?_ ?_)
   | (with_reducible refine LeO.bind ?_ (fun _ => ?_))
set_option maxHeartbeats 8000000 in
set_option maxRecDepth 100000 in
theorem zg.calls (k : Nat) (A0_0 : Option Addr) (c0_0 : Nat) (l0_0 : List (List (S40))) (r : Int) (w : World) (hr0_0 : Kd.C (Kd.slice 40 k40) w A0_0 l0_0.length l0_0) (hc0_0 : l0_0.length ≤ c0_0) (h : zg.f k l0_0 = some r) :
  Calls Tryz.prog 22 #[.agg #[.slice A0_0 l0_0.length c0_0]] w fun e w' => e = .returned (.int .i64 r) ∧ Below w.heap.size w w' := by
 have hu31 := Tryz.underlying31
 have HR0_0 := qb.mk hr0_0
 have HC0_0 := qb.mk hc0_0
 clear hr0_0 hc0_0
 have HB := qb.mk (Below.refl w.heap.size w)
 have H : (if (l0_0.length : Int) > 8 then (some 2) else (zg.l0 k l0_0 (l0_0.length : Int) 0)) = some r := h
 clear h
 by_cases c2 : (l0_0.length : Int) > 8
 ·rw [if_pos c2] at H
  have c2b0 : decide (8 < (l0_0.length : Int)) = true := decide_eq_true c2
  have c2b1 : decide (8 < l0_0.length) = true := decide_eq_true yg
  clear c2
  obtain rfl := Option.some.inj H
  go_enter Tryz.func22, Tryz.ntmps22
  go_wp2_with (first | ((with_reducible refine zm (N := 1) rfl ?_); refine zx ?hg (N := 1) ?hd (cs := #[.slice A0_0 l0_0.length c0_0]) (t := 31) ?hr ?_; (case hd => rfl); (case hg => rfl); (case hr => first | (go_simp; done) | (go_simp; rfl)); intro gb244 hg w3 hbox hb; have n0_ := qb.mk (qm cu hb); have n1_ := qb.mk (hbox); have n2_ := qb.mk ((by rw [hg]; exact (qp cu) : w.heap.size ≤ gb244)); have n3_ := qb.mk ((by rw [hg]; exact (qp cu) : w.heap.size ≤ gb244)); clear HB; have HB := n0_; have BK244 := n1_; have GW244 := n2_; have GE244 := n3_; clear n0_ n1_ n2_ n3_; clear hb hbox hg; have hcz4_0 : w3.cell? ⟨gb244, 0, none⟩ = some (.slice A0_0 l0_0.length c0_0) := (qo BK244.out 0).trans rfl; have hfz4_0 := qr BK244.out 0))
  go_ret
  exact ⟨by first | rfl | (simp [qt, qu] <;> rfl) | (simp [*, qt, qu] <;> rfl), by repeat (first | (with_reducible first | exact HB.out | apply qc | apply qa | apply qd | refine qe ?_ GE244.out) | exact HB.out)⟩
 ·rw [if_neg c2] at H
  have c2b0 : decide (8 < (l0_0.length : Int)) = false := decide_eq_false c2
  have c2b1 : decide (8 < l0_0.length) = false := decide_eq_false yg
  clear c2
  have H' := qb.mk H
  clear H
  go_enter Tryz.func22, Tryz.ntmps22
  go_wp2_with (first | ((with_reducible refine zm (N := 1) rfl ?_); refine zx ?hg (N := 1) ?hd (cs := #[.slice A0_0 l0_0.length c0_0]) (t := 31) ?hr ?_; (case hd => rfl); (case hg => rfl); (case hr => first | (go_simp; done) | (go_simp; rfl)); intro gb244 hg w5 hbox hb; have n0_ := qb.mk (qm cu hb); have n1_ := qb.mk (hbox); have n2_ := qb.mk ((by rw [hg]; exact (qp cu) : w.heap.size ≤ gb244)); have n3_ := qb.mk ((by rw [hg]; exact (qp cu) : w.heap.size ≤ gb244)); clear HB; have HB := n0_; have BK244 := n1_; have GW244 := n2_; have GE244 := n3_; clear n0_ n1_ n2_ n3_; clear hb hbox hg; have hcz6_0 : w5.cell? ⟨gb244, 0, none⟩ = some (.slice A0_0 l0_0.length c0_0) := (qo BK244.out 0).trans rfl; have hfz6_0 := qr BK244.out 0))
  go_loopg [13] k (fun kq v13 w' => ∃ (x13_1 : Int), v13 = .int .i64 x13_1 ∧ qb (zg.l0 kq l0_0 (l0_0.length : Int) x13_1 = some r) ∧ qb (kq ≤ k) ∧ qb (w'.heap[gb244]? = some (.cells #[(.slice A0_0 l0_0.length c0_0)] 31 (0, 0))) ∧ qb (Below w.heap.size w w'))
  case atStart => exact ⟨(0), yf, H', ⟨Nat.le_refl _⟩, ⟨by (with_reducible repeat (first | refine qg ?_ _ | refine qh ?_ | refine qf ?_ _)); exact BK244.out⟩, ⟨by repeat (first | (with_reducible first | exact HB.out | apply qc | apply qa | apply qd | refine qe ?_ GE244.out) | exact HB.out)⟩⟩
  case round =>
   clear H'
   (try clear c2); (try clear c2b0); (try clear c2b1); (try clear p2); (try clear hcz4_0); (try clear hcz6_0); (try clear hfz4_0); try clear hfz6_0
   obtain ⟨x13_1, rfl, HA, HK1, BK244, HB⟩ := hrel
   cases gk with
   | zero => exact absurd HA.out (by simp [zg.l0])
   | succ k1 =>
    have H := HA.out
    clear HA
    simp only [zg.l0] at H
    by_cases c7 : x13_1 < (l0_0.length : Int)
    ·rw [if_pos c7] at H
     have c7b0 : decide (x13_1 < (l0_0.length : Int)) = true := decide_eq_true c7
     clear c7
     by_cases c8 : 0 ≤ x13_1
     ·rw [if_pos c8] at H
      have c8b0 : decide (0 ≤ x13_1) = true := decide_eq_true c8
      clear c8
      by_cases c9 : x13_1 < (l0_0.length : Int)
      ·rw [if_pos c9] at H
       have c9b0 : decide (x13_1 < (l0_0.length : Int)) = true := decide_eq_true c9
       clear c9
       by_cases c10 : ((zz l0_0 x13_1).length : Int) = 0
       ·rw [if_pos c10] at H
        have c10b0 : (((zz l0_0 x13_1).length : Int) == 0) = true := beq_iff_eq.mpr c10
        have c10b1 : (((zz l0_0 x13_1).length : Int) != 0) = false := bne_eq_false_iff_eq.mpr c10
        clear c10
        obtain rfl := Option.some.inj H
        have p245 : 0 ≤ (x13_1 : Int) := of_decide_eq_true yc
        have q245 : x13_1 < (l0_0.length : Int) := of_decide_eq_true yc
        obtain ⟨ad245, A245_0, c245_0, e245, hx245_0, hl245_0, hi245_0⟩ := at_L5 HR0_0.out x13_1 p245 q245
        cases e245
        replace hx245_0 := (HB.out.cell (World.block_lt_of_cell? w _ hx245_0)).trans hx245_0
        have HR245_0 := qb.mk hi245_0
        have HC245_0 := qb.mk hl245_0
        clear hi245_0 hl245_0
        replace p245 := eq_true p245
        replace q245 := eq_true q245
        go_wp2
        go_ret
        exact ⟨by first | rfl | (simp [qt, qu] <;> rfl) | (simp [*, qt, qu] <;> rfl), by repeat (first | (with_reducible first | exact HB.out | apply qc | apply qa | apply qd | refine qe ?_ GE244.out) | exact HB.out)⟩
       ·rw [if_neg c10] at H
        have c10b0 : (((zz l0_0 x13_1).length : Int) == 0) = false := beq_eq_false_iff_ne.mpr c10
        have c10b1 : (((zz l0_0 x13_1).length : Int) != 0) = true := bne_iff_ne.mpr c10
        have c10b2 : ¬ ((zz l0_0 x13_1) = []) := fun h_ => c10 (by rw [h_]; rfl)
        by_cases c11 : ((zz l0_0 x13_1).length : Int) > 4
        ·rw [if_pos c11] at H
         have c11b0 : decide (4 < ((zz l0_0 x13_1).length : Int)) = true := decide_eq_true c11
         have c11b1 : decide (4 < (zz l0_0 x13_1).length) = true := decide_eq_true yg
         clear c11
         obtain rfl := Option.some.inj H
         have p245 : 0 ≤ (x13_1 : Int) := of_decide_eq_true yc
         have q245 : x13_1 < (l0_0.length : Int) := of_decide_eq_true yc
         obtain ⟨ad245, A245_0, c245_0, e245, hx245_0, hl245_0, hi245_0⟩ := at_L5 HR0_0.out x13_1 p245 q245
         cases e245
         replace hx245_0 := (HB.out.cell (World.block_lt_of_cell? w _ hx245_0)).trans hx245_0
         have HR245_0 := qb.mk hi245_0
         have HC245_0 := qb.mk hl245_0
         clear hi245_0 hl245_0
         replace p245 := eq_true p245
         replace q245 := eq_true q245
         go_wp2
         go_ret
         exact ⟨by first | rfl | (simp [qt, qu] <;> rfl) | (simp [*, qt, qu] <;> rfl), by repeat (first | (with_reducible first | exact HB.out | apply qc | apply qa | apply qd | refine qe ?_ GE244.out) | exact HB.out)⟩
        ·rw [if_neg c11] at H
         have c11b0 : decide (4 < ((zz l0_0 x13_1).length : Int)) = false := decide_eq_false c11
         have c11b1 : decide (4 < (zz l0_0 x13_1).length) = false := decide_eq_false yg
         clear c11
         replace H := Option.bind_eq_some_iff.mp H
         obtain ⟨t246, A120, H⟩ := H
         replace H : (if t246 = 0 then (zg.l0 k1 l0_0 (l0_0.length : Int) (wrap64 (x13_1 + 1))) else (some t246)) = some r := H
         have A12 := qb.mk A120
         clear A120
         by_cases c13 : t246 = 0
         ·rw [if_pos c13] at H
          have c13b0 : (t246 == 0) = true := beq_iff_eq.mpr c13
          have c13b1 : (t246 != 0) = false := bne_eq_false_iff_eq.mpr c13
          clear c13
          have H' := qb.mk H
          clear H
          have p245 : 0 ≤ (x13_1 : Int) := of_decide_eq_true yc
          have q245 : x13_1 < (l0_0.length : Int) := of_decide_eq_true yc
          obtain ⟨ad245, A245_0, c245_0, e245, hx245_0, hl245_0, hi245_0⟩ := at_L5 HR0_0.out x13_1 p245 q245
          cases e245
          replace hx245_0 := (HB.out.cell (World.block_lt_of_cell? w _ hx245_0)).trans hx245_0
          have HR245_0 := qb.mk hi245_0
          have HC245_0 := qb.mk hl245_0
          clear hi245_0 hl245_0
          replace p245 := eq_true p245
          replace q245 := eq_true q245
          go_wp2_with (first | ((with_reducible refine zl (f := 48) rfl ?_); refine xk (some 24) rfl rfl Tryz.func48 yh rfl #[.slice A245_0 (zz l0_0 x13_1).length c245_0] rfl cz ?_; (with_reducible refine (qn.calls k1 _ _ (zz l0_0 x13_1) t246 _ ?side1 ?side2 A12.out).mono ?_); (case side1 => repeat (first | exact (Kd.xv HR245_0.out HB.out) | (with_reducible refine Kd.xr ?_ _) | (with_reducible refine Kd.xt ?_ _) | (with_reducible refine Kd.kp ?_))); (case side2 => exact HC245_0.out); rintro e w14 ⟨rfl, hb⟩; refine ⟨_, rfl, ?_⟩; have n0_ := qb.mk (q8 (g := gb244) (o := .cells #[.slice (some ad245) l0_0.length c0_0] 31 (0, 0)) (by (with_reducible repeat (first | refine qg ?_ _ | refine qh ?_ | refine qf ?_ _)); exact BK244.out) hb); have n1_ := qb.mk (qm cbj hb); clear BK244; clear HB; have BK244 := n0_; have HB := n1_; clear n0_ n1_; (try clear hb); (try clear hb2); (try clear hk); (try clear hi)))
          go_roundg k1
          case measure => have := HK1.out; omega
          case rel => exact ⟨(wrap64 (x13_1 + 1)), yf, H', ⟨by have := HK1.out; omega⟩, ⟨by (with_reducible repeat (first | refine qg ?_ _ | refine qh ?_ | refine qf ?_ _)); exact BK244.out⟩, ⟨by repeat (first | (with_reducible first | exact HB.out | apply qc | apply qa | apply qd | refine qe ?_ GE244.out) | exact HB.out)⟩⟩
         ·rw [if_neg c13] at H
          have c13b0 : (t246 == 0) = false := beq_eq_false_iff_ne.mpr c13
          have c13b1 : (t246 != 0) = true := bne_iff_ne.mpr c13
          obtain rfl := Option.some.inj H
          have p245 : 0 ≤ (x13_1 : Int) := of_decide_eq_true yc
          have q245 : x13_1 < (l0_0.length : Int) := of_decide_eq_true yc
          obtain ⟨ad245, A245_0, c245_0, e245, hx245_0, hl245_0, hi245_0⟩ := at_L5 HR0_0.out x13_1 p245 q245
          cases e245
          replace hx245_0 := (HB.out.cell (World.block_lt_of_cell? w _ hx245_0)).trans hx245_0
          have HR245_0 := qb.mk hi245_0
          have HC245_0 := qb.mk hl245_0
          clear hi245_0 hl245_0
          replace p245 := eq_true p245
          replace q245 := eq_true q245
          go_wp2_with (first | ((with_reducible refine zl (f := 48) rfl ?_); refine xk (some 24) rfl rfl Tryz.func48 yh rfl #[.slice A245_0 (zz l0_0 x13_1).length c245_0] rfl cz ?_; (with_reducible refine (qn.calls k1 _ _ (zz l0_0 x13_1) t246 _ ?side1 ?side2 A12.out).mono ?_); (case side1 => repeat (first | exact (Kd.xv HR245_0.out HB.out) | (with_reducible refine Kd.xr ?_ _) | (with_reducible refine Kd.xt ?_ _) | (with_reducible refine Kd.kp ?_))); (case side2 => exact HC245_0.out); rintro e w15 ⟨rfl, hb⟩; refine ⟨_, rfl, ?_⟩; have n0_ := qb.mk (q8 (g := gb244) (o := .cells #[.slice (some ad245) l0_0.length c0_0] 31 (0, 0)) (by (with_reducible repeat (first | refine qg ?_ _ | refine qh ?_ | refine qf ?_ _)); exact BK244.out) hb); have n1_ := qb.mk (qm cbj hb); clear BK244; clear HB; have BK244 := n0_; have HB := n1_; clear n0_ n1_; (try clear hb); (try clear hb2); (try clear hk); (try clear hi)))
          go_ret
          exact ⟨by first | rfl | (simp [qt, qu] <;> rfl) | (simp [*, qt, qu] <;> rfl), by repeat (first | (with_reducible first | exact HB.out | apply qc | apply qa | apply qd | refine qe ?_ GE244.out) | exact HB.out)⟩
      ·rw [if_neg c9] at H
       exact absurd H uf
     ·rw [if_neg c8] at H
      exact absurd H uf
    ·rw [if_neg c7] at H
     have c7b0 : decide (x13_1 < (l0_0.length : Int)) = false := decide_eq_false c7
     clear c7
     obtain rfl := Option.some.inj H
     go_wp2
     go_ret
     exact ⟨by first | rfl | (simp [qt, qu] <;> rfl) | (simp [*, qt, qu] <;> rfl), by repeat (first | (with_reducible first | exact HB.out | apply qc | apply qa | apply qd | refine qe ?_ GE244.out) | exact HB.out)⟩
def lowC (c : Int) : Int := if 65 ≤ c ∧ c ≤ 90 then c + 32 else c
end Go.Proofs.YthdoohfdminfgaaGreatDoor.C
end
section
namespace Go.Proofs.YthdoohfdminfgaaGreatDoor.C
open Go.RowKit Go.Proofs.YthdoohfdminfgaaGreatDoorW.PrintWords Go.Proofs.YthdoohfdminfgaaGreatDoorW.PrintLast Go.Proofs.YthdoohfdminfgaaGreatDoorW.PrintMore
attribute [local go_sem] kc xy kr ks xh xg xz xx
set_option linter.unusedVariables false
set_option linter.unusedSimpArgs false
end Go.Proofs.YthdoohfdminfgaaGreatDoor.C
end
section
namespace Go.Proofs.YthdoohfdminfgaaGreatDoor.C
open Go.RowKit Go.Proofs.YthdoohfdminfgaaGreatDoorW.PrintWords Go.Proofs.YthdoohfdminfgaaGreatDoorW.PrintLast Go.Proofs.YthdoohfdminfgaaGreatDoorW.PrintMore
attribute [local go_sem] kc xy kr ks xh xg xz xx
set_option linter.unusedVariables false
set_option linter.unusedSimpArgs false
end Go.Proofs.YthdoohfdminfgaaGreatDoor.C
end
section
namespace Go.Proofs.YthdoohfdminfgaaGreatDoor.C
open Go.RowKit Go.Proofs.YthdoohfdminfgaaGreatDoorW.PrintWords Go.Proofs.YthdoohfdminfgaaGreatDoorW.PrintLast Go.Proofs.YthdoohfdminfgaaGreatDoorW.PrintMore
attribute [local go_sem] kc xy kr ks xh xg xz xx
set_option linter.unusedVariables false
set_option linter.unusedSimpArgs false
end Go.Proofs.YthdoohfdminfgaaGreatDoor.C
end
section
namespace Go.Proofs.YthdoohfdminfgaaGreatDoor.C
open Go.RowKit Go.Proofs.YthdoohfdminfgaaGreatDoorW.PrintWords Go.Proofs.YthdoohfdminfgaaGreatDoorW.PrintLast Go.Proofs.YthdoohfdminfgaaGreatDoorW.PrintMore
attribute [local go_sem] kc xy kr ks xh xg xz xx
set_option linter.unusedVariables false
set_option linter.unusedSimpArgs false
end Go.Proofs.YthdoohfdminfgaaGreatDoor.C
end
section
namespace Go.Proofs.YthdoohfdminfgaaGreatDoor.C
open Go.RowKit Go.Proofs.YthdoohfdminfgaaGreatDoorW.PrintWords Go.Proofs.YthdoohfdminfgaaGreatDoorW.PrintLast Go.Proofs.YthdoohfdminfgaaGreatDoorW.PrintMore
attribute [local go_sem] kc xy kr ks xh xg xz xx
set_option linter.unusedVariables false
set_option linter.unusedSimpArgs false
mutual
def zc.l0 : Nat → List (List (S40)) → Int → Int → Option (Bool)
 | 0, _, _, _ => none
 | k + 1, x12, x13, x14 => if x14 < x13 then (if 0 ≤ x14 then (if x14 < (x12.length : Int) then (if ((zz x12 x14).length : Int) > 8 then (some false) else (zc.l1 k x12 x13 x14 (zz x12 x14) ((zz x12 x14).length : Int) 0)) else (none)) else (none)) else (some true)
def zc.l1 : Nat → List (List (S40)) → Int → Int → List (S40) → Int → Int → Option (Bool)
 | 0, _, _, _, _, _, _ => none
 | k + 1, x12, x13, x14, x21, x22, x23 => if x23 < x22 then (if 0 ≤ x23 then (if x23 < (x21.length : Int) then (if (((qk x21 x23).f0).size : Int) > 200 then (some false) else (if (((qk x21 x23).f2).size : Int) > 200 then (some false) else (zc.l1 k x12 x13 x14 x21 x22 (wrap64 (x23 + 1))))) else (none)) else (none)) else (zc.l0 k x12 x13 (wrap64 (x14 + 1)))
end
def zc.f (k : Nat) (l0_0 : List (List (S40))) : Option (Bool) := if (l0_0.length : Int) > 12 then (some false) else (zc.l0 k l0_0 (l0_0.length : Int) 0)
theorem zc.xl : ∀ k, (∀ y0 y1 y2, LeO (zc.l0 k y0 y1 y2) (zc.l0 (k + 1) y0 y1 y2)) ∧ (∀ y0 y1 y2 y3 y4 y5, LeO (zc.l1 k y0 y1 y2 y3 y4 y5) (zc.l1 (k + 1) y0 y1 y2 y3 y4 y5))
 | 0 => ⟨fun _ _ _ r h => by simp [zc.l0] at h, fun _ _ _ _ _ _ r h => by simp [zc.l1] at h⟩
 | k + 1 => by
  obtain ⟨ih0, ih1⟩ := zc.xl k
  refine ⟨?_, ?_⟩
  ·intro y0 y1 y2
   unfold zc.l0
   repeat' first
   | (with_reducible exact ih0 _ _ _)
   | (with_reducible exact ih1 _ _ _ _ _ _)
   | (with_reducible exact LeO.refl _)
   | (with_reducible exact LeO.none _)
   | (with_reducible refine LeO.ite ?_ ?_)
   | (with_reducible refine LeO.bind ?_ (fun _ => ?_))
  ·intro y0 y1 y2 y3 y4 y5
   unfold zc.l1
   repeat' first
   | (with_reducible exact ih0 _ _ _)
   | (with_reducible exact ih1 _ _ _ _ _ _)
   | (with_reducible exact LeO.refl _)
   | (with_reducible exact LeO.none _)
   | (with_reducible refine LeO.ite ?_ ?_)
   | (with_reducible refine LeO.bind ?_ (fun _ => ?_))
theorem zc.mono : ∀ a0 k, LeO (zc.f k a0) (zc.f (k + 1) a0) := by
 intro a0 k
 obtain ⟨ih0, ih1⟩ := zc.xl k
 unfold zc.f
 repeat' first
   | (with_reducible exact ih0 _ _ _)
   | (with_reducible exact ih1 _ _ _ _ _ _)
   | (with_reducible exact LeO.refl _)
   | (with_reducible exact LeO.none _)
   | (with_reducible refine LeO.ite ?_ ?_)
   | (with_reducible refine LeO.bind ?_ (fun _ => ?_))
set_option maxHeartbeats 8000000 in
set_option maxRecDepth 100000 in
theorem zc.calls (k : Nat) (A0_0 : Option Addr) (c0_0 : Nat) (l0_0 : List (List (S40))) (r : Bool) (w : World) (hr0_0 : Kd.C (Kd.slice 40 k40) w A0_0 l0_0.length l0_0) (hc0_0 : l0_0.length ≤ c0_0) (h : zc.f k l0_0 = some r) :
  Calls Tryz.prog 17 #[.agg #[.slice A0_0 l0_0.length c0_0]] w fun e w' => e = .returned (.bool r) ∧ Below w.heap.size w w' := by
 have hu31 := Tryz.underlying31
 have hu40 := Tryz.underlying40
 have HR0_0 := qb.mk hr0_0
 have HC0_0 := qb.mk hc0_0
 clear hr0_0 hc0_0
 have HB := qb.mk (Below.refl w.heap.size w)
 have H : (if (l0_0.length : Int) > 12 then (some false) else (zc.l0 k l0_0 (l0_0.length : Int) 0)) = some r := h
 clear h
 by_cases c2 : (l0_0.length : Int) > 12
 ·rw [if_pos c2] at H
  have c2b0 : decide (12 < (l0_0.length : Int)) = true := decide_eq_true c2
  have c2b1 : decide (12 < l0_0.length) = true := decide_eq_true yg
  clear c2
  obtain rfl := Option.some.inj H
  go_enter Tryz.func17, Tryz.ntmps17
  go_wp2_with (first | ((with_reducible refine zm (N := 1) rfl ?_); (try (refine ku (by rfl) ?_; dsimp only)); refine zx ?hg (N := 1) ?hd (cs := #[.slice A0_0 l0_0.length c0_0]) (t := 31) ?hr ?_; (case hd => rfl); (case hg => rfl); (case hr => first | (go_simp; done) | (go_simp; rfl)); intro gb274 hg w3 hbox hb; have n0_ := qb.mk (qm cu hb); have n1_ := qb.mk (hbox); have n2_ := qb.mk ((by rw [hg]; exact (qp cu) : w.heap.size ≤ gb274)); have n3_ := qb.mk ((by rw [hg]; exact (qp cu) : w.heap.size ≤ gb274)); clear HB; have HB := n0_; have BK274 := n1_; have GW274 := n2_; have GE274 := n3_; clear n0_ n1_ n2_ n3_; clear hb hbox hg; have hcz4_0 : w3.cell? ⟨gb274, 0, none⟩ = some (.slice A0_0 l0_0.length c0_0) := (qo BK274.out 0).trans rfl; have hfz4_0 := qr BK274.out 0))
  go_ret
  exact ⟨by first | rfl | (simp [qt, qu] <;> rfl) | (simp [*, qt, qu] <;> rfl), by repeat (first | (with_reducible first | exact HB.out | apply qc | apply qa | apply qd | refine qe ?_ GE274.out) | exact HB.out)⟩
 ·rw [if_neg c2] at H
  have c2b0 : decide (12 < (l0_0.length : Int)) = false := decide_eq_false c2
  have c2b1 : decide (12 < l0_0.length) = false := decide_eq_false yg
  clear c2
  have H' := qb.mk H
  clear H
  go_enter Tryz.func17, Tryz.ntmps17
  go_wp2_with (first | ((with_reducible refine zm (N := 1) rfl ?_); (try (refine ku (by rfl) ?_; dsimp only)); refine zx ?hg (N := 1) ?hd (cs := #[.slice A0_0 l0_0.length c0_0]) (t := 31) ?hr ?_; (case hd => rfl); (case hg => rfl); (case hr => first | (go_simp; done) | (go_simp; rfl)); intro gb274 hg w5 hbox hb; have n0_ := qb.mk (qm cu hb); have n1_ := qb.mk (hbox); have n2_ := qb.mk ((by rw [hg]; exact (qp cu) : w.heap.size ≤ gb274)); have n3_ := qb.mk ((by rw [hg]; exact (qp cu) : w.heap.size ≤ gb274)); clear HB; have HB := n0_; have BK274 := n1_; have GW274 := n2_; have GE274 := n3_; clear n0_ n1_ n2_ n3_; clear hb hbox hg; have hcz6_0 : w5.cell? ⟨gb274, 0, none⟩ = some (.slice A0_0 l0_0.length c0_0) := (qo BK274.out 0).trans rfl; have hfz6_0 := qr BK274.out 0))
  go_loopg [14] k (fun kq v14 w' => ∃ (x14_1 : Int), v14 = .int .i64 x14_1 ∧ qb (zc.l0 kq l0_0 (l0_0.length : Int) x14_1 = some r) ∧ qb (kq ≤ k) ∧ qb (w'.heap[gb274]? = some (.cells #[(.slice A0_0 l0_0.length c0_0)] 31 (0, 0))) ∧ qb (Below w.heap.size w w'))
  case atStart => exact ⟨(0), yf, H', ⟨Nat.le_refl _⟩, ⟨by (with_reducible repeat (first | refine qg ?_ _ | refine qh ?_ | refine qf ?_ _)); exact BK274.out⟩, ⟨by repeat (first | (with_reducible first | exact HB.out | apply qc | apply qa | apply qd | refine qe ?_ GE274.out) | exact HB.out)⟩⟩
  case round =>
   clear H'
   (try clear c1); (try clear c2); (try clear c2b0); (try clear c2b1); (try clear p2); (try clear hcz4_0); (try clear hcz6_0); (try clear hfz4_0); try clear hfz6_0
   obtain ⟨x14_1, rfl, HA, HK1, BK274, HB⟩ := hrel
   cases gk with
   | zero => exact absurd HA.out (by simp [zc.l0])
   | succ k1 =>
    have H := HA.out
    clear HA
    simp only [zc.l0] at H
    by_cases c7 : x14_1 < (l0_0.length : Int)
    ·rw [if_pos c7] at H
     have c7b0 : decide (x14_1 < (l0_0.length : Int)) = true := decide_eq_true c7
     clear c7
     by_cases c8 : 0 ≤ x14_1
     ·rw [if_pos c8] at H
      have c8b0 : decide (0 ≤ x14_1) = true := decide_eq_true c8
      clear c8
      by_cases c9 : x14_1 < (l0_0.length : Int)
      ·rw [if_pos c9] at H
       have c9b0 : decide (x14_1 < (l0_0.length : Int)) = true := decide_eq_true c9
       clear c9
       by_cases c10 : ((zz l0_0 x14_1).length : Int) > 8
       ·rw [if_pos c10] at H
        have c10b0 : decide (8 < ((zz l0_0 x14_1).length : Int)) = true := decide_eq_true c10
        have c10b1 : decide (8 < (zz l0_0 x14_1).length) = true := decide_eq_true yg
        clear c10
        obtain rfl := Option.some.inj H
        have p275 : 0 ≤ (x14_1 : Int) := of_decide_eq_true yc
        have q275 : x14_1 < (l0_0.length : Int) := of_decide_eq_true yc
        obtain ⟨ad275, A275_0, c275_0, e275, hx275_0, hl275_0, hi275_0⟩ := at_L5 HR0_0.out x14_1 p275 q275
        cases e275
        replace hx275_0 := (HB.out.cell (World.block_lt_of_cell? w _ hx275_0)).trans hx275_0
        have HR275_0 := qb.mk hi275_0
        have HC275_0 := qb.mk hl275_0
        clear hi275_0 hl275_0
        replace p275 := eq_true p275
        replace q275 := eq_true q275
        go_wp2
        go_ret
        exact ⟨by first | rfl | (simp [qt, qu] <;> rfl) | (simp [*, qt, qu] <;> rfl), by repeat (first | (with_reducible first | exact HB.out | apply qc | apply qa | apply qd | refine qe ?_ GE274.out) | exact HB.out)⟩
       ·rw [if_neg c10] at H
        have c10b0 : decide (8 < ((zz l0_0 x14_1).length : Int)) = false := decide_eq_false c10
        have c10b1 : decide (8 < (zz l0_0 x14_1).length) = false := decide_eq_false yg
        clear c10
        have H' := qb.mk H
        clear H
        have p275 : 0 ≤ (x14_1 : Int) := of_decide_eq_true yc
        have q275 : x14_1 < (l0_0.length : Int) := of_decide_eq_true yc
        obtain ⟨ad275, A275_0, c275_0, e275, hx275_0, hl275_0, hi275_0⟩ := at_L5 HR0_0.out x14_1 p275 q275
        cases e275
        replace hx275_0 := (HB.out.cell (World.block_lt_of_cell? w _ hx275_0)).trans hx275_0
        have HR275_0 := qb.mk hi275_0
        have HC275_0 := qb.mk hl275_0
        clear hi275_0 hl275_0
        replace p275 := eq_true p275
        replace q275 := eq_true q275
        go_wp2
        go_loopg [23] k1 (fun kq v23 w' => ∃ (x23_2 : Int), v23 = .int .i64 x23_2 ∧ qb (zc.l1 kq l0_0 (l0_0.length : Int) x14_1 (zz l0_0 x14_1) ((zz l0_0 x14_1).length : Int) x23_2 = some r) ∧ qb (kq ≤ k1) ∧ qb (w'.heap[gb274]? = some (.cells #[(.slice (some ad275) l0_0.length c0_0)] 31 (0, 0))) ∧ qb (Below w.heap.size w w'))
        case atStart => exact ⟨(0), yf, H', ⟨Nat.le_refl _⟩, ⟨by (with_reducible repeat (first | refine qg ?_ _ | refine qh ?_ | refine qf ?_ _)); exact BK274.out⟩, ⟨by repeat (first | (with_reducible first | exact HB.out | apply qc | apply qa | apply qd | refine qe ?_ GE274.out) | exact HB.out)⟩⟩
        case round =>
         clear H'
         (try clear c1); (try clear c2); (try clear c2b0); (try clear c2b1); (try clear p2); (try clear q2); (try clear hx2); (try clear c7); (try clear c7b0); (try clear c8); (try clear c8b0); try clear c9
         (try clear c9b0); (try clear c10); (try clear c10b0); (try clear c10b1); (try clear hcz4_0); (try clear hcz6_0); (try clear hfz4_0); (try clear hfz6_0); (try clear hx275_0); try clear p2
         (try clear p275); try clear q275
         obtain ⟨x23_2, rfl, HA, HK2, BK274, HB⟩ := hrel
         cases gk with
         | zero => exact absurd HA.out (by simp [zc.l1])
         | succ k2 =>
          have H := HA.out
          clear HA
          simp only [zc.l1] at H
          by_cases c11 : x23_2 < ((zz l0_0 x14_1).length : Int)
          ·rw [if_pos c11] at H
           have c11b0 : decide (x23_2 < ((zz l0_0 x14_1).length : Int)) = true := decide_eq_true c11
           clear c11
           by_cases c12 : 0 ≤ x23_2
           ·rw [if_pos c12] at H
            have c12b0 : decide (0 ≤ x23_2) = true := decide_eq_true c12
            clear c12
            by_cases c13 : x23_2 < ((zz l0_0 x14_1).length : Int)
            ·rw [if_pos c13] at H
             have c13b0 : decide (x23_2 < ((zz l0_0 x14_1).length : Int)) = true := decide_eq_true c13
             clear c13
             by_cases c14 : (((qk (zz l0_0 x14_1) x23_2).f0).size : Int) > 200
             ·rw [if_pos c14] at H
              have c14b0 : decide (200 < (((qk (zz l0_0 x14_1) x23_2).f0).size : Int)) = true := decide_eq_true c14
              have c14b1 : decide (200 < ((qk (zz l0_0 x14_1) x23_2).f0).size) = true := decide_eq_true yg
              clear c14
              obtain rfl := Option.some.inj H
              have p276 : 0 ≤ (x23_2 : Int) := of_decide_eq_true yc
              have q276 : x23_2 < ((zz l0_0 x14_1).length : Int) := of_decide_eq_true yc
              obtain ⟨ad276, e276, hx276_0, hx276_1, hx276_2⟩ := js HR275_0.out x23_2 p276 q276
              cases e276
              replace hx276_0 := (HB.out.cell (World.block_lt_of_cell? w _ hx276_0)).trans hx276_0
              replace hx276_1 := (HB.out.cell (World.block_lt_of_cell? w _ hx276_1)).trans hx276_1
              replace hx276_2 := (HB.out.cell (World.block_lt_of_cell? w _ hx276_2)).trans hx276_2
              replace p276 := eq_true p276
              replace q276 := eq_true q276
              go_wp2_with (first | ((with_reducible refine zm (N := 6) rfl ?_); (try (refine ku (by rfl) ?_; dsimp only)); refine zx ?hg (N := 6) ?hd (cs := #[.string (⟨#[]⟩ : ByteArray), .int .i64 0, .string (⟨#[]⟩ : ByteArray)]) (t := 40) ?hr ?_; (case hd => rfl); (case hg => rfl); (case hr => first | (go_simp; done) | (go_simp; rfl)); intro gb277 hg w15 hbox hb; have n0_ := qb.mk (q8 (g := gb274) (o := .cells #[.slice (some ad275) l0_0.length c0_0] 31 (0, 0)) fe hb); have n1_ := qb.mk (qm uo hb); have n2_ := qb.mk (hbox); have n3_ := qb.mk ((by rw [hg]; exact (qp uo) : w.heap.size ≤ gb277)); have n4_ := qb.mk ((by rw [hg]; exact (qp uo) : w.heap.size ≤ gb277)); have n5_ := qb.mk ((by rw [hg]; exact Nat.ne_of_lt (xu (g := gb274) (o := .cells #[.slice (some ad275) l0_0.length c0_0] 31 (0, 0)) fe) : gb274 ≠ gb277)); have n6_ := qb.mk ((by rw [hg]; exact Nat.ne_of_gt (xu (g := gb274) (o := .cells #[.slice (some ad275) l0_0.length c0_0] 31 (0, 0)) fe) : gb277 ≠ gb274)); clear BK274; clear HB; have BK274 := n0_; have HB := n1_; have BK277 := n2_; have GW277 := n3_; have GE277 := n4_; have NB274_277 := n5_; have NB277_274 := n6_; clear n0_ n1_ n2_ n3_ n4_ n5_ n6_; clear hb hbox hg; have hnb16 := NB277_274.out; have hnc16 := NB274_277.out; have hcz17_0 : w15.cell? ⟨gb277, 0, none⟩ = some (.string (⟨#[]⟩ : ByteArray)) := (qo BK277.out 0).trans rfl; have hcz17_1 : w15.cell? ⟨gb277, 1, none⟩ = some (.int .i64 0) := (qo BK277.out 1).trans rfl; have hcz17_2 : w15.cell? ⟨gb277, 2, none⟩ = some (.string (⟨#[]⟩ : ByteArray)) := (qo BK277.out 2).trans rfl; have hfz17_0 := qr BK277.out 0; have hfz17_1 := qr BK277.out 1; have hfz17_2 := qr BK277.out 2))
              go_ret
              exact ⟨by first | rfl | (simp [qt, qu] <;> rfl) | (simp [*, qt, qu] <;> rfl), by repeat (first | (with_reducible first | exact HB.out | apply qc | apply qa | apply qd | refine qe ?_ GE274.out | refine qe ?_ GE277.out) | exact HB.out)⟩
             ·rw [if_neg c14] at H
              have c14b0 : decide (200 < (((qk (zz l0_0 x14_1) x23_2).f0).size : Int)) = false := decide_eq_false c14
              have c14b1 : decide (200 < ((qk (zz l0_0 x14_1) x23_2).f0).size) = false := decide_eq_false yg
              clear c14
              by_cases c18 : (((qk (zz l0_0 x14_1) x23_2).f2).size : Int) > 200
              ·rw [if_pos c18] at H
               have c18b0 : decide (200 < (((qk (zz l0_0 x14_1) x23_2).f2).size : Int)) = true := decide_eq_true c18
               have c18b1 : decide (200 < ((qk (zz l0_0 x14_1) x23_2).f2).size) = true := decide_eq_true yg
               clear c18
               obtain rfl := Option.some.inj H
               have p276 : 0 ≤ (x23_2 : Int) := of_decide_eq_true yc
               have q276 : x23_2 < ((zz l0_0 x14_1).length : Int) := of_decide_eq_true yc
               obtain ⟨ad276, e276, hx276_0, hx276_1, hx276_2⟩ := js HR275_0.out x23_2 p276 q276
               cases e276
               replace hx276_0 := (HB.out.cell (World.block_lt_of_cell? w _ hx276_0)).trans hx276_0
               replace hx276_1 := (HB.out.cell (World.block_lt_of_cell? w _ hx276_1)).trans hx276_1
               replace hx276_2 := (HB.out.cell (World.block_lt_of_cell? w _ hx276_2)).trans hx276_2
               replace p276 := eq_true p276
               replace q276 := eq_true q276
               go_wp2_with (first | ((with_reducible refine zm (N := 6) rfl ?_); (try (refine ku (by rfl) ?_; dsimp only)); refine zx ?hg (N := 6) ?hd (cs := #[.string (⟨#[]⟩ : ByteArray), .int .i64 0, .string (⟨#[]⟩ : ByteArray)]) (t := 40) ?hr ?_; (case hd => rfl); (case hg => rfl); (case hr => first | (go_simp; done) | (go_simp; rfl)); intro gb277 hg w19 hbox hb; have n0_ := qb.mk (q8 (g := gb274) (o := .cells #[.slice (some ad275) l0_0.length c0_0] 31 (0, 0)) fe hb); have n1_ := qb.mk (qm uo hb); have n2_ := qb.mk (hbox); have n3_ := qb.mk ((by rw [hg]; exact (qp uo) : w.heap.size ≤ gb277)); have n4_ := qb.mk ((by rw [hg]; exact (qp uo) : w.heap.size ≤ gb277)); have n5_ := qb.mk ((by rw [hg]; exact Nat.ne_of_lt (xu (g := gb274) (o := .cells #[.slice (some ad275) l0_0.length c0_0] 31 (0, 0)) fe) : gb274 ≠ gb277)); have n6_ := qb.mk ((by rw [hg]; exact Nat.ne_of_gt (xu (g := gb274) (o := .cells #[.slice (some ad275) l0_0.length c0_0] 31 (0, 0)) fe) : gb277 ≠ gb274)); clear BK274; clear HB; have BK274 := n0_; have HB := n1_; have BK277 := n2_; have GW277 := n3_; have GE277 := n4_; have NB274_277 := n5_; have NB277_274 := n6_; clear n0_ n1_ n2_ n3_ n4_ n5_ n6_; clear hb hbox hg; have hnb20 := NB277_274.out; have hnc20 := NB274_277.out; have hcz21_0 : w19.cell? ⟨gb277, 0, none⟩ = some (.string (⟨#[]⟩ : ByteArray)) := (qo BK277.out 0).trans rfl; have hcz21_1 : w19.cell? ⟨gb277, 1, none⟩ = some (.int .i64 0) := (qo BK277.out 1).trans rfl; have hcz21_2 : w19.cell? ⟨gb277, 2, none⟩ = some (.string (⟨#[]⟩ : ByteArray)) := (qo BK277.out 2).trans rfl; have hfz21_0 := qr BK277.out 0; have hfz21_1 := qr BK277.out 1; have hfz21_2 := qr BK277.out 2))
               go_ret
               exact ⟨by first | rfl | (simp [qt, qu] <;> rfl) | (simp [*, qt, qu] <;> rfl), by repeat (first | (with_reducible first | exact HB.out | apply qc | apply qa | apply qd | refine qe ?_ GE274.out | refine qe ?_ GE277.out) | exact HB.out)⟩
              ·rw [if_neg c18] at H
               have c18b0 : decide (200 < (((qk (zz l0_0 x14_1) x23_2).f2).size : Int)) = false := decide_eq_false c18
               have c18b1 : decide (200 < ((qk (zz l0_0 x14_1) x23_2).f2).size) = false := decide_eq_false yg
               clear c18
               have H' := qb.mk H
               clear H
               have p276 : 0 ≤ (x23_2 : Int) := of_decide_eq_true yc
               have q276 : x23_2 < ((zz l0_0 x14_1).length : Int) := of_decide_eq_true yc
               obtain ⟨ad276, e276, hx276_0, hx276_1, hx276_2⟩ := js HR275_0.out x23_2 p276 q276
               cases e276
               replace hx276_0 := (HB.out.cell (World.block_lt_of_cell? w _ hx276_0)).trans hx276_0
               replace hx276_1 := (HB.out.cell (World.block_lt_of_cell? w _ hx276_1)).trans hx276_1
               replace hx276_2 := (HB.out.cell (World.block_lt_of_cell? w _ hx276_2)).trans hx276_2
               replace p276 := eq_true p276
               replace q276 := eq_true q276
               go_wp2_with (first | ((with_reducible refine zm (N := 6) rfl ?_); (try (refine ku (by rfl) ?_; dsimp only)); refine zx ?hg (N := 6) ?hd (cs := #[.string (⟨#[]⟩ : ByteArray), .int .i64 0, .string (⟨#[]⟩ : ByteArray)]) (t := 40) ?hr ?_; (case hd => rfl); (case hg => rfl); (case hr => first | (go_simp; done) | (go_simp; rfl)); intro gb277 hg w22 hbox hb; have n0_ := qb.mk (q8 (g := gb274) (o := .cells #[.slice (some ad275) l0_0.length c0_0] 31 (0, 0)) fe hb); have n1_ := qb.mk (qm uo hb); have n2_ := qb.mk (hbox); have n3_ := qb.mk ((by rw [hg]; exact (qp uo) : w.heap.size ≤ gb277)); have n4_ := qb.mk ((by rw [hg]; exact (qp uo) : w.heap.size ≤ gb277)); have n5_ := qb.mk ((by rw [hg]; exact Nat.ne_of_lt (xu (g := gb274) (o := .cells #[.slice (some ad275) l0_0.length c0_0] 31 (0, 0)) fe) : gb274 ≠ gb277)); have n6_ := qb.mk ((by rw [hg]; exact Nat.ne_of_gt (xu (g := gb274) (o := .cells #[.slice (some ad275) l0_0.length c0_0] 31 (0, 0)) fe) : gb277 ≠ gb274)); clear BK274; clear HB; have BK274 := n0_; have HB := n1_; have BK277 := n2_; have GW277 := n3_; have GE277 := n4_; have NB274_277 := n5_; have NB277_274 := n6_; clear n0_ n1_ n2_ n3_ n4_ n5_ n6_; clear hb hbox hg; have hnb23 := NB277_274.out; have hnc23 := NB274_277.out; have hcz24_0 : w22.cell? ⟨gb277, 0, none⟩ = some (.string (⟨#[]⟩ : ByteArray)) := (qo BK277.out 0).trans rfl; have hcz24_1 : w22.cell? ⟨gb277, 1, none⟩ = some (.int .i64 0) := (qo BK277.out 1).trans rfl; have hcz24_2 : w22.cell? ⟨gb277, 2, none⟩ = some (.string (⟨#[]⟩ : ByteArray)) := (qo BK277.out 2).trans rfl; have hfz24_0 := qr BK277.out 0; have hfz24_1 := qr BK277.out 1; have hfz24_2 := qr BK277.out 2))
               go_roundg k2
               case measure => have := HK1.out; have := HK2.out; omega
               case rel => exact ⟨(wrap64 (x23_2 + 1)), yf, H', ⟨by have := HK1.out; have := HK2.out; omega⟩, ⟨by (with_reducible repeat (first | refine qg ?_ _ | refine qh ?_ | refine qf ?_ _)); refine kt ?_ NB274_277.out _; (with_reducible repeat (first | refine qg ?_ _ | refine qh ?_ | refine qf ?_ _)); refine kt ?_ NB274_277.out _; (with_reducible repeat (first | refine qg ?_ _ | refine qh ?_ | refine qf ?_ _)); refine kt ?_ NB274_277.out _; (with_reducible repeat (first | refine qg ?_ _ | refine qh ?_ | refine qf ?_ _)); exact BK274.out⟩, ⟨by repeat (first | (with_reducible first | exact HB.out | apply qc | apply qa | apply qd | refine qe ?_ GE274.out | refine qe ?_ GE277.out) | exact HB.out)⟩⟩
            ·rw [if_neg c13] at H
             exact absurd H uf
           ·rw [if_neg c12] at H
            exact absurd H uf
          ·rw [if_neg c11] at H
           have c11b0 : decide (x23_2 < ((zz l0_0 x14_1).length : Int)) = false := decide_eq_false c11
           clear c11
           have H' := qb.mk H
           clear H
           go_wp2
           go_roundg k2
           case measure => have := HK1.out; have := HK2.out; omega
           case rel => exact ⟨(wrap64 (x14_1 + 1)), yf, H', ⟨by have := HK1.out; have := HK2.out; omega⟩, ⟨by (with_reducible repeat (first | refine qg ?_ _ | refine qh ?_ | refine qf ?_ _)); exact BK274.out⟩, ⟨by repeat (first | (with_reducible first | exact HB.out | apply qc | apply qa | apply qd | refine qe ?_ GE274.out) | exact HB.out)⟩⟩
      ·rw [if_neg c9] at H
       exact absurd H uf
     ·rw [if_neg c8] at H
      exact absurd H uf
    ·rw [if_neg c7] at H
     have c7b0 : decide (x14_1 < (l0_0.length : Int)) = false := decide_eq_false c7
     clear c7
     obtain rfl := Option.some.inj H
     go_wp2
     go_ret
     exact ⟨by first | rfl | (simp [qt, qu] <;> rfl) | (simp [*, qt, qu] <;> rfl), by repeat (first | (with_reducible first | exact HB.out | apply qc | apply qa | apply qd | refine qe ?_ GE274.out) | exact HB.out)⟩
end Go.Proofs.YthdoohfdminfgaaGreatDoor.C
end
section
namespace Go.Proofs.YthdoohfdminfgaaGreatDoor.C
open Go.RowKit Go.Proofs.YthdoohfdminfgaaGreatDoorW.PrintWords Go.Proofs.YthdoohfdminfgaaGreatDoorW.PrintLast Go.Proofs.YthdoohfdminfgaaGreatDoorW.PrintMore
attribute [local go_sem] kc xy kr ks xh xg xz xx
set_option linter.unusedVariables false
set_option linter.unusedSimpArgs false
def xd (w0 W : World) (g : Nat) (f0 : List Int) (f1 : Int) : Prop := ∃ A0 c0, W.heap[g]? = some (.cells #[.slice A0 f0.length c0, .int .i64 f1] 54 (0, 0)) ∧ w0.heap.size ≤ g ∧ Kd.C (Kd.int .i64) w0 A0 f0.length f0
theorem xd.grown {w0 W : World} {g : Nat} {f0 : List Int} {f1 : Int} {W1 : World} {row : Option Nat} (h : xd w0 W g f0 f1) (hw : W.grownBy W1 row) (hne : some g ≠ row) : xd w0 W1 g f0 f1 := by
 obtain ⟨A0, c0, hb, hg, hr0⟩ := h
 exact ⟨A0, c0, ja hb hw hne, hg, hr0⟩
theorem xd.kept {w0 W : World} {g : Nat} {f0 : List Int} {f1 : Int} {W1 : World} {S : Nat → Prop} (h : xd w0 W g f0 f1) (hk : Kept W W1 S) (hne : ¬ S g) : xd w0 W1 g f0 f1 := by
 obtain ⟨A0, c0, hb, hg, hr0⟩ := h
 exact ⟨A0, c0, blk_kept hb hk hne, hg, hr0⟩
theorem xd.below {w0 W : World} {g : Nat} {f0 : List Int} {f1 : Int} {W1 : World} (h : xd w0 W g f0 f1) (hw : Below W.heap.size W W1) : xd w0 W1 g f0 f1 := h.grown (grown_of_below hw none) uf
theorem xd.alloc {w0 W : World} {g : Nat} {f0 : List Int} {f1 : Int} (h : xd w0 W g f0 f1) (o : Obj) : xd w0 (W.alloc o) g f0 f1 := h.below (qc (Below.refl _ _) o)
theorem xd.drewN {w0 W : World} {g : Nat} {f0 : List Int} {f1 : Int} (h : xd w0 W g f0 f1) (m : Nat) : xd w0 (W.drewN m) g f0 f1 := h
theorem xd.drew {w0 W : World} {g : Nat} {f0 : List Int} {f1 : Int} (h : xd w0 W g f0 f1) : xd w0 W.drew g f0 f1 := h
theorem xd.at_ {w0 W : World} {g : Nat} {f0 : List Int} {f1 : Int} {w' : World} {m : Nat} (hq : W.drewN m = w') (h : xd w0 W g f0 f1) : xd w0 w' g f0 f1 := by subst hq; exact xd.drewN h m
theorem xd.apart {w0 W : World} {g : Nat} {f0 : List Int} {f1 : Int} {α : Type} {d : Kd α} {e : Nat} {base : Nat} {ok : Nat → Prop} {v : Value} {xs : List α} (h : xd w0 W g f0 f1) (ho : d.R e W base ok v xs) (ht : ∀ q, q ∈ e :: d.E → q ≠ 54) : d.R e W base (fun k => ok k ∧ k ≠ g) v xs := by
 obtain ⟨A0, c0, hb, hg, hr0⟩ := h
 exact Kd.R_types ho hb ht
theorem xd.own_ne {w0 W : World} {g : Nat} {f0 : List Int} {f1 : Int} {α : Type} {d : Kd α} {e : Nat} {base : Nat} {ok : Nat → Prop} {v : Value} {xs : List α} (h : xd w0 W g f0 f1) (ho : d.R e W base ok v xs) (ht : e ≠ 54) : some g ≠ v.ownBlock := by
 obtain ⟨A0, c0, hb, hg, hr0⟩ := h
 exact Kd.R_ne ho hb ht
theorem xd.apartS {w0 W : World} {g : Nat} {f0 : List Int} {f1 : Int} {α : Type} {d : Kd α} {e : Nat} {base : Nat} {ok : Nat → Prop} {v : Value} {xs : List α} (h : xd w0 W g f0 f1) (ho : d.S e W base ok v xs) (ht : ∀ q, q ∈ e :: d.E → q ≠ 54) : d.S e W base (fun k => ok k ∧ k ≠ g) v xs := by
 obtain ⟨A0, c0, hb, hg, hr0⟩ := h
 exact Kd.jh ho hb ht
theorem xd.lt {w0 W : World} {g : Nat} {f0 : List Int} {f1 : Int} (h : xd w0 W g f0 f1) : g < W.heap.size := by
 obtain ⟨A0, c0, hb, hg, hr0⟩ := h
 exact xu hb
theorem xd.ge {w0 W : World} {g : Nat} {f0 : List Int} {f1 : Int} (h : xd w0 W g f0 f1) : w0.heap.size ≤ g := by
 obtain ⟨A0, c0, hb, hg, hr0⟩ := h
 exact hg
theorem xd.far {w0 W : World} {g : Nat} {f0 : List Int} {f1 : Int} {p : Addr} (h : xd w0 W g f0 f1) (hne : g ≠ p.block) (u : Value) : xd w0 (W.setCell p u) g f0 f1 := by
 obtain ⟨A0, c0, hb, hg, hr0⟩ := h
 exact ⟨A0, c0, kt hb hne u, hg, hr0⟩
theorem cellS54_0 {W : World} {g : Nat} {A0 : Option Addr} {c0 : Nat} {f0 : List Int} {f1 : Int} (h : W.heap[g]? = some (.cells #[.slice A0 f0.length c0, .int .i64 f1] 54 (0, 0))) : W.cell? ⟨g, 0, none⟩ = some (.slice A0 f0.length c0) := (qo h 0).trans rfl
theorem cellS54_1 {W : World} {g : Nat} {A0 : Option Addr} {c0 : Nat} {f0 : List Int} {f1 : Int} (h : W.heap[g]? = some (.cells #[.slice A0 f0.length c0, .int .i64 f1] 54 (0, 0))) : W.cell? ⟨g, 1, none⟩ = some (.int .i64 f1) := (qo h 1).trans rfl
theorem xd.set_1 {w0 W : World} {g : Nat} {f0 : List Int} {f1 : Int} (h : xd w0 W g f0 f1) (x : Int) : xd w0 (W.setCell ⟨g, 1, none⟩ (.int .i64 x)) g f0 x := by
 obtain ⟨A0, c0, hb, hg, hr0⟩ := h
 exact ⟨A0, c0, by simpa using blk_set hb 1 (.int .i64 x), hg, hr0⟩
def certpathmade_New.f (l0 : List Int) : Option (List Int × Int) := some (l0, 0)
set_option maxHeartbeats 8000000 in
set_option maxRecDepth 100000 in
theorem certpathmade_New.calls (A0 : Option Addr) (c0 : Nat) (l0 : List Int) (r1 : List Int) (r2 : Int) (w0 w : World) (hB : Below w0.heap.size w0 w) (hr0 : Kd.C (Kd.int .i64) w0 A0 l0.length l0) (hc0 : l0.length ≤ c0) (h : certpathmade_New.f l0 = some (r1, r2)) :
  Calls Tryz.prog 9 #[.slice A0 l0.length c0] w fun e w' => ∃ g_ : Nat, e = .returned (.pointer (some ⟨g_, 0, none⟩)) ∧ xd w0 w' g_ r1 r2 ∧ Below w0.heap.size w0 w' ∧ Below w.heap.size w w' := by
 have hu54 := Tryz.underlying54
 have HR0 := qb.mk hr0
 have HC0 := qb.mk hc0
 clear hr0 hc0
 have HBW := qb.mk (Below.refl w.heap.size w)
 have HW0 := qb.mk hB.size
 have HB := qb.mk hB
 clear hB
 have H : (some (l0, 0)) = some (r1, r2) := h
 clear h
 simp only [Option.some.injEq, Prod.mk.injEq] at H
 obtain ⟨rfl, rfl⟩ := H
 go_enter Tryz.func9, Tryz.ntmps9
 go_wp2_with (first | ((with_reducible refine zm (N := 5) rfl ?_); refine zx ?hg (N := 5) ?hd (cs := #[.slice A0 l0.length c0, .int .i64 0]) (t := 54) ?hr ?_; (case hd => rfl); (case hg => rfl); (case hr => first | (go_simp; done) | (go_simp; rfl)); intro gb278 hg w2 hbox hb; have n0_ := qb.mk (qm HBW.out hb); have n1_ := qb.mk (qm cu hb); have n2_ := qb.mk (hbox); have n3_ := qb.mk ((by rw [hg]; exact (qp (by repeat (first | (with_reducible first | exact HBW.out | apply qc | apply qa | apply qd) | exact HBW.out))) : w.heap.size ≤ gb278)); have n4_ := qb.mk ((Nat.le_trans HW0.out (by rw [hg]; exact (qp (by repeat (first | (with_reducible first | exact HBW.out | apply qc | apply qa | apply qd) | exact HBW.out))) : w.heap.size ≤ gb278) : w0.heap.size ≤ gb278)); clear HBW; clear HB; have HBW := n0_; have HB := n1_; have BK278 := n2_; have GW278 := n3_; have GE278 := n4_; clear n0_ n1_ n2_ n3_ n4_; clear hb hbox hg))
 go_ret
 exact ⟨_, rfl, (show xd w0 _ gb278 l0 0 from ⟨_, _, by (with_reducible repeat (first | refine qg ?_ _ | refine qh ?_ | refine qf ?_ _)); exact BK278.out, GE278.out, HR0.out⟩), by repeat (first | (with_reducible first | exact HB.out | apply qc | apply qa | apply qd | refine qe ?_ GE278.out) | exact HB.out), by repeat (first | (with_reducible first | exact HBW.out | apply qc | apply qa | apply qd | refine qe ?_ GW278.out) | exact HBW.out)⟩
def kw.f (s0_0 : List Int) (s0_1 : Int) (a1 : Int) : Option (Int × Int) := if s0_1 ≥ (s0_0.length : Int) then (some (0, s0_1)) else (if 0 ≤ (wrap64 ((wrap64 (s0_1 + 1)) - 1)) then (if (wrap64 ((wrap64 (s0_1 + 1)) - 1)) < (s0_0.length : Int) then (if a1 = 0 then (none) else (some (Int.tmod (wrap64 ((Int.tmod (rd s0_0 (wrap64 ((wrap64 (s0_1 + 1)) - 1))) a1) + a1)) a1, wrap64 (s0_1 + 1)))) else (none)) else (none))
set_option maxHeartbeats 8000000 in
set_option maxRecDepth 100000 in
theorem kw.calls (g : Nat) (s0_0 : List Int) (s0_1 : Int) (a1 : Int) (r1 : Int) (r2 : Int) (w0 w : World) (hI : xd w0 w g s0_0 s0_1) (hB : Below w0.heap.size w0 w) (h : kw.f s0_0 s0_1 a1 = some (r1, r2)) :
  Calls Tryz.prog 18 #[.pointer (some ⟨g, 0, none⟩), .int .i64 a1] w fun e w' => e = .returned (.int .i64 r1) ∧ xd w0 w' g s0_0 r2 ∧ Below w0.heap.size w0 w' ∧ KeepBut w w' g none := by
 have HI0 := qb.mk hI
 have HK := qb.mk (KeepBut.refl w g none)
 have HL := qb.mk hB.size
 clear hI
 have HW0 := qb.mk hB.size
 have HB := qb.mk hB
 clear hB
 have H : (if s0_1 ≥ (s0_0.length : Int) then (some (0, s0_1)) else (if 0 ≤ (wrap64 ((wrap64 (s0_1 + 1)) - 1)) then (if (wrap64 ((wrap64 (s0_1 + 1)) - 1)) < (s0_0.length : Int) then (if a1 = 0 then (none) else (some (Int.tmod (wrap64 ((Int.tmod (rd s0_0 (wrap64 ((wrap64 (s0_1 + 1)) - 1))) a1) + a1)) a1, wrap64 (s0_1 + 1)))) else (none)) else (none))) = some (r1, r2) := h
 clear h
 by_cases c3 : s0_1 ≥ (s0_0.length : Int)
 ·rw [if_pos c3] at H
  have c3b0 : decide ((s0_0.length : Int) ≤ s0_1) = true := decide_eq_true c3
  clear c3
  simp only [Option.some.injEq, Prod.mk.injEq] at H
  obtain ⟨rfl, rfl⟩ := H
  obtain ⟨ASz4_0, cSz4_0, HGz4, hgz4, HSz4_0⟩ := HI0.out
  have hcz4_0 := cellS54_0 HGz4
  have hcz4_1 := cellS54_1 HGz4
  have hfz4_1 := qr HGz4 1
  clear HGz4 hgz4
  go_enter Tryz.func18, Tryz.ntmps18
  go_wp2
  repeat (go_quiet (fail); try go_wp2)
  go_ret
  exact ⟨by first | rfl | (simp [qt, qu] <;> rfl) | (simp [*, qt, qu] <;> rfl), by repeat (first | (with_reducible first | exact HI0.out | apply xd.alloc | apply xd.drewN | apply xd.drew | apply xd.set_1) | exact HI0.out), by repeat (first | (with_reducible first | exact HB.out | apply qc | apply qa | apply qd | refine qe ?_ (xd.ge HI0.out)) | exact HB.out), by repeat (first | (with_reducible first | exact HK.out | apply KeepBut.set_ | apply keep_drewN | apply keep_drew | apply keep_alloc) | exact HK.out)⟩
 ·rw [if_neg c3] at H
  have c3b0 : decide ((s0_0.length : Int) ≤ s0_1) = false := decide_eq_false c3
  clear c3
  obtain ⟨ji5, hji5⟩ : ∃ j_ : Int, (wrap64 ((wrap64 (s0_1 + 1)) - 1)) = j_ := ⟨_, rfl⟩
  replace H : (if 0 ≤ (ji5) then (if (ji5) < (s0_0.length : Int) then (if a1 = 0 then (none) else (some (Int.tmod (wrap64 ((Int.tmod (rd s0_0 (ji5)) a1) + a1)) a1, wrap64 (s0_1 + 1)))) else (none)) else (none)) = some (r1, r2) := by first | (rw [hji5] at H; exact H) | (simp only [hji5] at H ⊢; exact H)
  have hji5w : (IntKind.i64.wrap ((wrap64 (s0_1 + 1)) - 1)) = ji5 := (zo _).trans hji5
  by_cases c6 : 0 ≤ (ji5)
  ·rw [if_pos c6] at H
   have c6b0 : decide (0 ≤ (ji5)) = true := decide_eq_true c6
   clear c6
   by_cases c7 : (ji5) < (s0_0.length : Int)
   ·rw [if_pos c7] at H
    have c7b0 : decide ((ji5) < (s0_0.length : Int)) = true := decide_eq_true c7
    clear c7
    by_cases c8 : a1 = 0
    ·rw [if_pos c8] at H
     exact absurd H uf
    ·rw [if_neg c8] at H
     have c8b0 : (a1 == 0) = false := beq_eq_false_iff_ne.mpr c8
     have c8b1 : (a1 != 0) = true := bne_iff_ne.mpr c8
     simp only [Option.some.injEq, Prod.mk.injEq] at H
     obtain ⟨rfl, rfl⟩ := H
     obtain ⟨ASz9_0, cSz9_0, HGz9, hgz9, HSz9_0⟩ := HI0.out
     have hcz9_0 := cellS54_0 HGz9
     have hcz9_1 := cellS54_1 HGz9
     have hfz9_1 := qr HGz9 1
     clear HGz9 hgz9
     have p279 : 0 ≤ ((ji5) : Int) := of_decide_eq_true yc
     have q279 : (ji5) < (s0_0.length : Int) := of_decide_eq_true yc
     obtain ⟨ad279, e279, hx279_0⟩ := Kd.at_int HSz9_0 (ji5) p279 q279
     cases e279
     have hn279_0 : ad279.block ≠ g := Nat.ne_of_lt (Nat.lt_of_lt_of_le (by have := World.block_lt_of_cell? _ _ hx279_0; first | rwa [add_block] at this | exact this) (xd.ge HI0.out))
     replace hx279_0 := pw_cell_below HB.out hx279_0
     replace hx279_0 := (cell_far (p := ⟨g, 1, none⟩) (by first | (rw [add_block]; exact hn279_0) | (show (Addr.add _ _).block ≠ _; rw [add_block]; exact hn279_0) | exact hn279_0) (.int .i64 (wrap64 (s0_1 + 1)))).trans hx279_0
     (try have hy279_0 := fun (n_ : Nat) => (show (((w.drewN n_).setCell ⟨g, 1, none⟩ (.int .i64 (wrap64 (s0_1 + 1))))).cell? _ = some _ from hx279_0))
     clear hn279_0
     replace p279 := eq_true p279
     replace q279 := eq_true q279
     go_enter Tryz.func18, Tryz.ntmps18
     go_wp2
     repeat (go_quiet (fail); try go_wp2)
     go_ret
     exact ⟨by first | rfl | (simp [qt, qu] <;> rfl) | (simp only [← hji5]; first | rfl | (simp [qt, qu] <;> rfl)) | (simp [*, qt, qu] <;> rfl), by repeat (first | (with_reducible first | exact HI0.out | apply xd.alloc | apply xd.drewN | apply xd.drew | apply xd.set_1) | exact HI0.out), by repeat (first | (with_reducible first | exact HB.out | apply qc | apply qa | apply qd | refine qe ?_ (xd.ge HI0.out)) | exact HB.out), by repeat (first | (with_reducible first | exact HK.out | apply KeepBut.set_ | apply keep_drewN | apply keep_drew | apply keep_alloc) | exact HK.out)⟩
   ·rw [if_neg c7] at H
    exact absurd H uf
  ·rw [if_neg c6] at H
   exact absurd H uf
def certpathmade_attribute.f (s0_0 : List Int) (s0_1 : Int) : Option (ByteArray × Int × ByteArray × Int) := (some (([(⟨(⟨#[50, 46, 53, 46, 52, 46, 51]⟩ : ByteArray), 12, (⟨#[65, 110, 110]⟩ : ByteArray)⟩ : S40), (⟨(⟨#[50, 46, 53, 46, 52, 46, 51]⟩ : ByteArray), 19, (⟨#[32, 97, 110, 110]⟩ : ByteArray)⟩ : S40), (⟨(⟨#[50, 46, 53, 46, 52, 46, 51]⟩ : ByteArray), 12, (⟨#[103, 114, 195, 182, 195, 159, 101]⟩ : ByteArray)⟩ : S40), (⟨(⟨#[50, 46, 53, 46, 52, 46, 54]⟩ : ByteArray), 19, (⟨#[85, 83]⟩ : ByteArray)⟩ : S40), (⟨(⟨#[50, 46, 53, 46, 52, 46, 49, 48]⟩ : ByteArray), 19, (⟨#[69, 120, 97, 109, 112, 108, 101, 32, 32, 67, 111, 114, 112]⟩ : ByteArray)⟩ : S40), (⟨(⟨#[50, 46, 53, 46, 52, 46, 49, 48]⟩ : ByteArray), 12, (⟨#[101, 120, 97, 109, 112, 108, 101, 32, 99, 111, 114, 112]⟩ : ByteArray)⟩ : S40), (⟨(⟨#[50, 46, 53, 46, 52, 46, 49, 49]⟩ : ByteArray), 22, (⟨#[97, 44, 98, 43, 99, 61, 100, 92, 101]⟩ : ByteArray)⟩ : S40), (⟨(⟨#[48, 46, 57, 46, 50, 51, 52, 50, 46, 49, 57, 50, 48, 48, 51, 48, 48, 46, 49, 48, 48, 46, 49, 46, 50, 53]⟩ : ByteArray), 22, (⟨#[111, 114, 103]⟩ : ByteArray)⟩ : S40), (⟨(⟨#[49, 46, 50, 46, 56, 52, 48, 46, 49, 49, 51, 53, 52, 57, 46, 49, 46, 57, 46, 49]⟩ : ByteArray), 22, (⟨#[97, 110, 110, 64, 101, 120, 97, 109, 112, 108, 101, 46, 111, 114, 103]⟩ : ByteArray)⟩ : S40), (⟨(⟨#[49, 46, 50, 46, 56, 52, 48, 46, 49, 49, 51, 53, 52, 57, 46, 49, 46, 57, 46, 49]⟩ : ByteArray), 22, (⟨#[110, 111, 32, 97, 100, 100, 114, 101, 115, 115]⟩ : ByteArray)⟩ : S40), (⟨(⟨#[50, 46, 53, 46, 52, 46, 57, 57]⟩ : ByteArray), 19, (⟨#[120]⟩ : ByteArray)⟩ : S40), (⟨(⟨#[50, 46, 53, 46, 52, 46, 55]⟩ : ByteArray), 12, (⟨#[76]⟩ : ByteArray)⟩ : S40)] : List (S40)) : List (S40))).bind fun y281 => ((kw.f s0_0 s0_1 12).bind fun bt284 => (if 0 ≤ bt284.1 then (if bt284.1 < (y281.length : Int) then (some ((qk y281 bt284.1).f0, (qk y281 bt284.1).f1, (qk y281 bt284.1).f2, bt284.2)) else (none)) else (none)))
set_option maxHeartbeats 8000000 in
set_option maxRecDepth 100000 in
theorem certpathmade_attribute.calls (g : Nat) (s0_0 : List Int) (s0_1 : Int) (r1 : ByteArray) (r2 : Int) (r3 : ByteArray) (r4 : Int) (w0 w : World) (hI : xd w0 w g s0_0 s0_1) (hB : Below w0.heap.size w0 w) (h : certpathmade_attribute.f s0_0 s0_1 = some (r1, r2, r3, r4)) :
  Calls Tryz.prog 34 #[.pointer (some ⟨g, 0, none⟩)] w fun e w' => e = .returned (.agg #[.string r1, .int .i64 r2, .string r3]) ∧ xd w0 w' g s0_0 r4 ∧ Below w0.heap.size w0 w' ∧ KeepBut w w' g none := by
 have hu40 := Tryz.underlying40
 have HI0 := qb.mk hI
 have HK := qb.mk (KeepBut.refl w g none)
 have HL := qb.mk hB.size
 clear hI
 have HW0 := qb.mk hB.size
 have HB := qb.mk hB
 clear hB
 have H : ((some (([(⟨(⟨#[50, 46, 53, 46, 52, 46, 51]⟩ : ByteArray), 12, (⟨#[65, 110, 110]⟩ : ByteArray)⟩ : S40), (⟨(⟨#[50, 46, 53, 46, 52, 46, 51]⟩ : ByteArray), 19, (⟨#[32, 97, 110, 110]⟩ : ByteArray)⟩ : S40), (⟨(⟨#[50, 46, 53, 46, 52, 46, 51]⟩ : ByteArray), 12, (⟨#[103, 114, 195, 182, 195, 159, 101]⟩ : ByteArray)⟩ : S40), (⟨(⟨#[50, 46, 53, 46, 52, 46, 54]⟩ : ByteArray), 19, (⟨#[85, 83]⟩ : ByteArray)⟩ : S40), (⟨(⟨#[50, 46, 53, 46, 52, 46, 49, 48]⟩ : ByteArray), 19, (⟨#[69, 120, 97, 109, 112, 108, 101, 32, 32, 67, 111, 114, 112]⟩ : ByteArray)⟩ : S40), (⟨(⟨#[50, 46, 53, 46, 52, 46, 49, 48]⟩ : ByteArray), 12, (⟨#[101, 120, 97, 109, 112, 108, 101, 32, 99, 111, 114, 112]⟩ : ByteArray)⟩ : S40), (⟨(⟨#[50, 46, 53, 46, 52, 46, 49, 49]⟩ : ByteArray), 22, (⟨#[97, 44, 98, 43, 99, 61, 100, 92, 101]⟩ : ByteArray)⟩ : S40), (⟨(⟨#[48, 46, 57, 46, 50, 51, 52, 50, 46, 49, 57, 50, 48, 48, 51, 48, 48, 46, 49, 48, 48, 46, 49, 46, 50, 53]⟩ : ByteArray), 22, (⟨#[111, 114, 103]⟩ : ByteArray)⟩ : S40), (⟨(⟨#[49, 46, 50, 46, 56, 52, 48, 46, 49, 49, 51, 53, 52, 57, 46, 49, 46, 57, 46, 49]⟩ : ByteArray), 22, (⟨#[97, 110, 110, 64, 101, 120, 97, 109, 112, 108, 101, 46, 111, 114, 103]⟩ : ByteArray)⟩ : S40), (⟨(⟨#[49, 46, 50, 46, 56, 52, 48, 46, 49, 49, 51, 53, 52, 57, 46, 49, 46, 57, 46, 49]⟩ : ByteArray), 22, (⟨#[110, 111, 32, 97, 100, 100, 114, 101, 115, 115]⟩ : ByteArray)⟩ : S40), (⟨(⟨#[50, 46, 53, 46, 52, 46, 57, 57]⟩ : ByteArray), 19, (⟨#[120]⟩ : ByteArray)⟩ : S40), (⟨(⟨#[50, 46, 53, 46, 52, 46, 55]⟩ : ByteArray), 12, (⟨#[76]⟩ : ByteArray)⟩ : S40)] : List (S40)) : List (S40))).bind fun y281 => ((kw.f s0_0 s0_1 12).bind fun bt284 => (if 0 ≤ bt284.1 then (if bt284.1 < (y281.length : Int) then (some ((qk y281 bt284.1).f0, (qk y281 bt284.1).f1, (qk y281 bt284.1).f2, bt284.2)) else (none)) else (none)))) = some (r1, r2, r3, r4) := h
 clear h
 obtain ⟨y281, hy281⟩ : ∃ y_ : List (S40), y_ = (([(⟨(⟨#[50, 46, 53, 46, 52, 46, 51]⟩ : ByteArray), 12, (⟨#[65, 110, 110]⟩ : ByteArray)⟩ : S40), (⟨(⟨#[50, 46, 53, 46, 52, 46, 51]⟩ : ByteArray), 19, (⟨#[32, 97, 110, 110]⟩ : ByteArray)⟩ : S40), (⟨(⟨#[50, 46, 53, 46, 52, 46, 51]⟩ : ByteArray), 12, (⟨#[103, 114, 195, 182, 195, 159, 101]⟩ : ByteArray)⟩ : S40), (⟨(⟨#[50, 46, 53, 46, 52, 46, 54]⟩ : ByteArray), 19, (⟨#[85, 83]⟩ : ByteArray)⟩ : S40), (⟨(⟨#[50, 46, 53, 46, 52, 46, 49, 48]⟩ : ByteArray), 19, (⟨#[69, 120, 97, 109, 112, 108, 101, 32, 32, 67, 111, 114, 112]⟩ : ByteArray)⟩ : S40), (⟨(⟨#[50, 46, 53, 46, 52, 46, 49, 48]⟩ : ByteArray), 12, (⟨#[101, 120, 97, 109, 112, 108, 101, 32, 99, 111, 114, 112]⟩ : ByteArray)⟩ : S40), (⟨(⟨#[50, 46, 53, 46, 52, 46, 49, 49]⟩ : ByteArray), 22, (⟨#[97, 44, 98, 43, 99, 61, 100, 92, 101]⟩ : ByteArray)⟩ : S40), (⟨(⟨#[48, 46, 57, 46, 50, 51, 52, 50, 46, 49, 57, 50, 48, 48, 51, 48, 48, 46, 49, 48, 48, 46, 49, 46, 50, 53]⟩ : ByteArray), 22, (⟨#[111, 114, 103]⟩ : ByteArray)⟩ : S40), (⟨(⟨#[49, 46, 50, 46, 56, 52, 48, 46, 49, 49, 51, 53, 52, 57, 46, 49, 46, 57, 46, 49]⟩ : ByteArray), 22, (⟨#[97, 110, 110, 64, 101, 120, 97, 109, 112, 108, 101, 46, 111, 114, 103]⟩ : ByteArray)⟩ : S40), (⟨(⟨#[49, 46, 50, 46, 56, 52, 48, 46, 49, 49, 51, 53, 52, 57, 46, 49, 46, 57, 46, 49]⟩ : ByteArray), 22, (⟨#[110, 111, 32, 97, 100, 100, 114, 101, 115, 115]⟩ : ByteArray)⟩ : S40), (⟨(⟨#[50, 46, 53, 46, 52, 46, 57, 57]⟩ : ByteArray), 19, (⟨#[120]⟩ : ByteArray)⟩ : S40), (⟨(⟨#[50, 46, 53, 46, 52, 46, 55]⟩ : ByteArray), 12, (⟨#[76]⟩ : ByteArray)⟩ : S40)] : List (S40))) := ⟨_, rfl⟩
 replace H : ((kw.f s0_0 s0_1 12).bind fun bt284 => (if 0 ≤ bt284.1 then (if bt284.1 < (y281.length : Int) then (some ((qk y281 bt284.1).f0, (qk y281 bt284.1).f1, (qk y281 bt284.1).f2, bt284.2)) else (none)) else (none))) = some (r1, r2, r3, r4) := by first | (rw [hy281]; with_reducible exact H) | (have H2_ := (Option.bind_some _ _).symm.trans H; rw [hy281]; with_reducible exact H2_) | (have H2_ := (Option.bind_some _ _).symm.trans H; with_reducible exact H2_) | with_reducible exact H | (rw [hy281]; exact H) | exact H
 have Ny281 := qb.mk hy281
 clear hy281
 replace H := Option.bind_eq_some_iff.mp H
 obtain ⟨⟨t284, t285⟩, A20, H⟩ := H
 replace H : (if 0 ≤ t284 then (if t284 < (y281.length : Int) then (some ((qk y281 t284).f0, (qk y281 t284).f1, (qk y281 t284).f2, t285)) else (none)) else (none)) = some (r1, r2, r3, r4) := H
 have A2 := qb.mk A20
 clear A20
 by_cases c3 : 0 ≤ t284
 ·rw [if_pos c3] at H
  have c3b0 : decide (0 ≤ t284) = true := decide_eq_true c3
  clear c3
  by_cases c4 : t284 < (y281.length : Int)
  ·rw [if_pos c4] at H
   have c4b0 : decide (t284 < (y281.length : Int)) = true := decide_eq_true c4
   clear c4
   simp only [Option.some.injEq, Prod.mk.injEq] at H
   obtain ⟨rfl, rfl, rfl, rfl⟩ := H
   go_enter Tryz.func34, Tryz.ntmps34
   go_wp2_with (first | ((with_reducible refine zm (N := 2) rfl ?_); refine zx ?hg (N := 2) ?hd (cs := #[.string (⟨#[]⟩ : ByteArray), .int .i64 0, .string (⟨#[]⟩ : ByteArray)]) (t := 40) ?hr ?_; (case hd => rfl); (case hg => rfl); (case hr => first | (go_simp; done) | (go_simp; rfl)); intro gb280 hg w5 hbox hb; have n0_ := qb.mk (xd.below (by repeat (first | (with_reducible first | exact HI0.out | apply xd.alloc | apply xd.drewN | apply xd.drew | apply xd.set_1) | exact HI0.out)) hb); have n1_ := qb.mk (KeepBut.trans caz (KeepBut.of_below hb g none) (.inl rfl)); have n2_ := qb.mk (qm (by repeat (first | (with_reducible first | exact HB.out | apply qc | apply qa | apply qd | refine qe ?_ (xd.ge HI0.out)) | exact HB.out)) hb); have n3_ := qb.mk (hbox); have n4_ := qb.mk ((by rw [hg]; exact (keep_size (w := w) (g := g) (row := none) caz) : w.heap.size ≤ gb280)); have n5_ := qb.mk ((Nat.le_trans HW0.out (by rw [hg]; exact (keep_size (w := w) (g := g) (row := none) caz) : w.heap.size ≤ gb280) : w0.heap.size ≤ gb280)); have n6_ := qb.mk ((by rw [hg]; exact Nat.ne_of_lt (xd.lt (show xd w0 _ g s0_0 s0_1 from by repeat (first | (with_reducible first | exact HI0.out | apply xd.alloc | apply xd.drewN | apply xd.drew | apply xd.set_1) | exact HI0.out))) : g ≠ gb280)); have n7_ := qb.mk ((by rw [hg]; exact Nat.ne_of_gt (xd.lt (show xd w0 _ g s0_0 s0_1 from by repeat (first | (with_reducible first | exact HI0.out | apply xd.alloc | apply xd.drewN | apply xd.drew | apply xd.set_1) | exact HI0.out))) : gb280 ≠ g)); clear HI0; clear HK; clear HB; have HI0 := n0_; have HK := n1_; have HB := n2_; have BK280 := n3_; have GW280 := n4_; have GE280 := n5_; have NB0_280 := n6_; have NB280_0 := n7_; clear n0_ n1_ n2_ n3_ n4_ n5_ n6_ n7_; clear hb hbox hg) | ((with_reducible refine zm (N := 15) rfl ?_); refine Kd.jz k40 _ 40 ?hg (N := 15) ?hd (xs := ([(⟨(⟨#[50, 46, 53, 46, 52, 46, 51]⟩ : ByteArray), 12, (⟨#[65, 110, 110]⟩ : ByteArray)⟩ : S40), (⟨(⟨#[50, 46, 53, 46, 52, 46, 51]⟩ : ByteArray), 19, (⟨#[32, 97, 110, 110]⟩ : ByteArray)⟩ : S40), (⟨(⟨#[50, 46, 53, 46, 52, 46, 51]⟩ : ByteArray), 12, (⟨#[103, 114, 195, 182, 195, 159, 101]⟩ : ByteArray)⟩ : S40), (⟨(⟨#[50, 46, 53, 46, 52, 46, 54]⟩ : ByteArray), 19, (⟨#[85, 83]⟩ : ByteArray)⟩ : S40), (⟨(⟨#[50, 46, 53, 46, 52, 46, 49, 48]⟩ : ByteArray), 19, (⟨#[69, 120, 97, 109, 112, 108, 101, 32, 32, 67, 111, 114, 112]⟩ : ByteArray)⟩ : S40), (⟨(⟨#[50, 46, 53, 46, 52, 46, 49, 48]⟩ : ByteArray), 12, (⟨#[101, 120, 97, 109, 112, 108, 101, 32, 99, 111, 114, 112]⟩ : ByteArray)⟩ : S40), (⟨(⟨#[50, 46, 53, 46, 52, 46, 49, 49]⟩ : ByteArray), 22, (⟨#[97, 44, 98, 43, 99, 61, 100, 92, 101]⟩ : ByteArray)⟩ : S40), (⟨(⟨#[48, 46, 57, 46, 50, 51, 52, 50, 46, 49, 57, 50, 48, 48, 51, 48, 48, 46, 49, 48, 48, 46, 49, 46, 50, 53]⟩ : ByteArray), 22, (⟨#[111, 114, 103]⟩ : ByteArray)⟩ : S40), (⟨(⟨#[49, 46, 50, 46, 56, 52, 48, 46, 49, 49, 51, 53, 52, 57, 46, 49, 46, 57, 46, 49]⟩ : ByteArray), 22, (⟨#[97, 110, 110, 64, 101, 120, 97, 109, 112, 108, 101, 46, 111, 114, 103]⟩ : ByteArray)⟩ : S40), (⟨(⟨#[49, 46, 50, 46, 56, 52, 48, 46, 49, 49, 51, 53, 52, 57, 46, 49, 46, 57, 46, 49]⟩ : ByteArray), 22, (⟨#[110, 111, 32, 97, 100, 100, 114, 101, 115, 115]⟩ : ByteArray)⟩ : S40), (⟨(⟨#[50, 46, 53, 46, 52, 46, 57, 57]⟩ : ByteArray), 19, (⟨#[120]⟩ : ByteArray)⟩ : S40), (⟨(⟨#[50, 46, 53, 46, 52, 46, 55]⟩ : ByteArray), 12, (⟨#[76]⟩ : ByteArray)⟩ : S40)] : List (S40))) (inner := [.string (⟨#[50, 46, 53, 46, 52, 46, 51]⟩ : ByteArray), .int .i64 12, .string (⟨#[65, 110, 110]⟩ : ByteArray), .string (⟨#[50, 46, 53, 46, 52, 46, 51]⟩ : ByteArray), .int .i64 19, .string (⟨#[32, 97, 110, 110]⟩ : ByteArray), .string (⟨#[50, 46, 53, 46, 52, 46, 51]⟩ : ByteArray), .int .i64 12, .string (⟨#[103, 114, 195, 182, 195, 159, 101]⟩ : ByteArray), .string (⟨#[50, 46, 53, 46, 52, 46, 54]⟩ : ByteArray), .int .i64 19, .string (⟨#[85, 83]⟩ : ByteArray), .string (⟨#[50, 46, 53, 46, 52, 46, 49, 48]⟩ : ByteArray), .int .i64 19, .string (⟨#[69, 120, 97, 109, 112, 108, 101, 32, 32, 67, 111, 114, 112]⟩ : ByteArray), .string (⟨#[50, 46, 53, 46, 52, 46, 49, 48]⟩ : ByteArray), .int .i64 12, .string (⟨#[101, 120, 97, 109, 112, 108, 101, 32, 99, 111, 114, 112]⟩ : ByteArray), .string (⟨#[50, 46, 53, 46, 52, 46, 49, 49]⟩ : ByteArray), .int .i64 22, .string (⟨#[97, 44, 98, 43, 99, 61, 100, 92, 101]⟩ : ByteArray), .string (⟨#[48, 46, 57, 46, 50, 51, 52, 50, 46, 49, 57, 50, 48, 48, 51, 48, 48, 46, 49, 48, 48, 46, 49, 46, 50, 53]⟩ : ByteArray), .int .i64 22, .string (⟨#[111, 114, 103]⟩ : ByteArray), .string (⟨#[49, 46, 50, 46, 56, 52, 48, 46, 49, 49, 51, 53, 52, 57, 46, 49, 46, 57, 46, 49]⟩ : ByteArray), .int .i64 22, .string (⟨#[97, 110, 110, 64, 101, 120, 97, 109, 112, 108, 101, 46, 111, 114, 103]⟩ : ByteArray), .string (⟨#[49, 46, 50, 46, 56, 52, 48, 46, 49, 49, 51, 53, 52, 57, 46, 49, 46, 57, 46, 49]⟩ : ByteArray), .int .i64 22, .string (⟨#[110, 111, 32, 97, 100, 100, 114, 101, 115, 115]⟩ : ByteArray), .string (⟨#[50, 46, 53, 46, 52, 46, 57, 57]⟩ : ByteArray), .int .i64 19, .string (⟨#[120]⟩ : ByteArray), .string (⟨#[50, 46, 53, 46, 52, 46, 55]⟩ : ByteArray), .int .i64 12, .string (⟨#[76]⟩ : ByteArray)]) (ok := fun _ => True) (okp := fun _ => True) ?hr ?hp (fun _ hk => hk) trivial (Below.refl _ _) (Nat.le_refl _) uf ?_; (case hd => rfl); (case hg => rfl); (case hr => first | (go_simp; done) | (go_simp; rfl)); (case hp => exact (Reps.c3 (show Kd.M k40 _ _ _ (⟨(⟨#[50, 46, 53, 46, 52, 46, 51]⟩ : ByteArray), 12, (⟨#[65, 110, 110]⟩ : ByteArray)⟩ : S40) [.string (⟨#[50, 46, 53, 46, 52, 46, 51]⟩ : ByteArray), .int .i64 12, .string (⟨#[65, 110, 110]⟩ : ByteArray)] from (k40_mkM _ _ _ (⟨(⟨#[50, 46, 53, 46, 52, 46, 51]⟩ : ByteArray), 12, (⟨#[65, 110, 110]⟩ : ByteArray)⟩ : S40) )) (Reps.c3 (show Kd.M k40 _ _ _ (⟨(⟨#[50, 46, 53, 46, 52, 46, 51]⟩ : ByteArray), 19, (⟨#[32, 97, 110, 110]⟩ : ByteArray)⟩ : S40) [.string (⟨#[50, 46, 53, 46, 52, 46, 51]⟩ : ByteArray), .int .i64 19, .string (⟨#[32, 97, 110, 110]⟩ : ByteArray)] from (k40_mkM _ _ _ (⟨(⟨#[50, 46, 53, 46, 52, 46, 51]⟩ : ByteArray), 19, (⟨#[32, 97, 110, 110]⟩ : ByteArray)⟩ : S40) )) (Reps.c3 (show Kd.M k40 _ _ _ (⟨(⟨#[50, 46, 53, 46, 52, 46, 51]⟩ : ByteArray), 12, (⟨#[103, 114, 195, 182, 195, 159, 101]⟩ : ByteArray)⟩ : S40) [.string (⟨#[50, 46, 53, 46, 52, 46, 51]⟩ : ByteArray), .int .i64 12, .string (⟨#[103, 114, 195, 182, 195, 159, 101]⟩ : ByteArray)] from (k40_mkM _ _ _ (⟨(⟨#[50, 46, 53, 46, 52, 46, 51]⟩ : ByteArray), 12, (⟨#[103, 114, 195, 182, 195, 159, 101]⟩ : ByteArray)⟩ : S40) )) (Reps.c3 (show Kd.M k40 _ _ _ (⟨(⟨#[50, 46, 53, 46, 52, 46, 54]⟩ : ByteArray), 19, (⟨#[85, 83]⟩ : ByteArray)⟩ : S40) [.string (⟨#[50, 46, 53, 46, 52, 46, 54]⟩ : ByteArray), .int .i64 19, .string (⟨#[85, 83]⟩ : ByteArray)] from (k40_mkM _ _ _ (⟨(⟨#[50, 46, 53, 46, 52, 46, 54]⟩ : ByteArray), 19, (⟨#[85, 83]⟩ : ByteArray)⟩ : S40) )) (Reps.c3 (show Kd.M k40 _ _ _ (⟨(⟨#[50, 46, 53, 46, 52, 46, 49, 48]⟩ : ByteArray), 19, (⟨#[69, 120, 97, 109, 112, 108, 101, 32, 32, 67, 111, 114, 112]⟩ : ByteArray)⟩ : S40) [.string (⟨#[50, 46, 53, 46, 52, 46, 49, 48]⟩ : ByteArray), .int .i64 19, .string (⟨#[69, 120, 97, 109, 112, 108, 101, 32, 32, 67, 111, 114, 112]⟩ : ByteArray)] from (k40_mkM _ _ _ (⟨(⟨#[50, 46, 53, 46, 52, 46, 49, 48]⟩ : ByteArray), 19, (⟨#[69, 120, 97, 109, 112, 108, 101, 32, 32, 67, 111, 114, 112]⟩ : ByteArray)⟩ : S40) )) (Reps.c3 (show Kd.M k40 _ _ _ (⟨(⟨#[50, 46, 53, 46, 52, 46, 49, 48]⟩ : ByteArray), 12, (⟨#[101, 120, 97, 109, 112, 108, 101, 32, 99, 111, 114, 112]⟩ : ByteArray)⟩ : S40) [.string (⟨#[50, 46, 53, 46, 52, 46, 49, 48]⟩ : ByteArray), .int .i64 12, .string (⟨#[101, 120, 97, 109, 112, 108, 101, 32, 99, 111, 114, 112]⟩ : ByteArray)] from (k40_mkM _ _ _ (⟨(⟨#[50, 46, 53, 46, 52, 46, 49, 48]⟩ : ByteArray), 12, (⟨#[101, 120, 97, 109, 112, 108, 101, 32, 99, 111, 114, 112]⟩ : ByteArray)⟩ : S40) )) (Reps.c3 (show Kd.M k40 _ _ _ (⟨(⟨#[50, 46, 53, 46, 52, 46, 49, 49]⟩ : ByteArray), 22, (⟨#[97, 44, 98, 43, 99, 61, 100, 92, 101]⟩ : ByteArray)⟩ : S40) [.string (⟨#[50, 46, 53, 46, 52, 46, 49, 49]⟩ : ByteArray), .int .i64 22, .string (⟨#[97, 44, 98, 43, 99, 61, 100, 92, 101]⟩ : ByteArray)] from (k40_mkM _ _ _ (⟨(⟨#[50, 46, 53, 46, 52, 46, 49, 49]⟩ : ByteArray), 22, (⟨#[97, 44, 98, 43, 99, 61, 100, 92, 101]⟩ : ByteArray)⟩ : S40) )) (Reps.c3 (show Kd.M k40 _ _ _ (⟨(⟨#[48, 46, 57, 46, 50, 51, 52, 50, 46, 49, 57, 50, 48, 48, 51, 48, 48, 46, 49, 48, 48, 46, 49, 46, 50, 53]⟩ : ByteArray), 22, (⟨#[111, 114, 103]⟩ : ByteArray)⟩ : S40) [.string (⟨#[48, 46, 57, 46, 50, 51, 52, 50, 46, 49, 57, 50, 48, 48, 51, 48, 48, 46, 49, 48, 48, 46, 49, 46, 50, 53]⟩ : ByteArray), .int .i64 22, .string (⟨#[111, 114, 103]⟩ : ByteArray)] from (k40_mkM _ _ _ (⟨(⟨#[48, 46, 57, 46, 50, 51, 52, 50, 46, 49, 57, 50, 48, 48, 51, 48, 48, 46, 49, 48, 48, 46, 49, 46, 50, 53]⟩ : ByteArray), 22, (⟨#[111, 114, 103]⟩ : ByteArray)⟩ : S40) )) (Reps.c3 (show Kd.M k40 _ _ _ (⟨(⟨#[49, 46, 50, 46, 56, 52, 48, 46, 49, 49, 51, 53, 52, 57, 46, 49, 46, 57, 46, 49]⟩ : ByteArray), 22, (⟨#[97, 110, 110, 64, 101, 120, 97, 109, 112, 108, 101, 46, 111, 114, 103]⟩ : ByteArray)⟩ : S40) [.string (⟨#[49, 46, 50, 46, 56, 52, 48, 46, 49, 49, 51, 53, 52, 57, 46, 49, 46, 57, 46, 49]⟩ : ByteArray), .int .i64 22, .string (⟨#[97, 110, 110, 64, 101, 120, 97, 109, 112, 108, 101, 46, 111, 114, 103]⟩ : ByteArray)] from (k40_mkM _ _ _ (⟨(⟨#[49, 46, 50, 46, 56, 52, 48, 46, 49, 49, 51, 53, 52, 57, 46, 49, 46, 57, 46, 49]⟩ : ByteArray), 22, (⟨#[97, 110, 110, 64, 101, 120, 97, 109, 112, 108, 101, 46, 111, 114, 103]⟩ : ByteArray)⟩ : S40) )) (Reps.c3 (show Kd.M k40 _ _ _ (⟨(⟨#[49, 46, 50, 46, 56, 52, 48, 46, 49, 49, 51, 53, 52, 57, 46, 49, 46, 57, 46, 49]⟩ : ByteArray), 22, (⟨#[110, 111, 32, 97, 100, 100, 114, 101, 115, 115]⟩ : ByteArray)⟩ : S40) [.string (⟨#[49, 46, 50, 46, 56, 52, 48, 46, 49, 49, 51, 53, 52, 57, 46, 49, 46, 57, 46, 49]⟩ : ByteArray), .int .i64 22, .string (⟨#[110, 111, 32, 97, 100, 100, 114, 101, 115, 115]⟩ : ByteArray)] from (k40_mkM _ _ _ (⟨(⟨#[49, 46, 50, 46, 56, 52, 48, 46, 49, 49, 51, 53, 52, 57, 46, 49, 46, 57, 46, 49]⟩ : ByteArray), 22, (⟨#[110, 111, 32, 97, 100, 100, 114, 101, 115, 115]⟩ : ByteArray)⟩ : S40) )) (Reps.c3 (show Kd.M k40 _ _ _ (⟨(⟨#[50, 46, 53, 46, 52, 46, 57, 57]⟩ : ByteArray), 19, (⟨#[120]⟩ : ByteArray)⟩ : S40) [.string (⟨#[50, 46, 53, 46, 52, 46, 57, 57]⟩ : ByteArray), .int .i64 19, .string (⟨#[120]⟩ : ByteArray)] from (k40_mkM _ _ _ (⟨(⟨#[50, 46, 53, 46, 52, 46, 57, 57]⟩ : ByteArray), 19, (⟨#[120]⟩ : ByteArray)⟩ : S40) )) (Reps.c3 (show Kd.M k40 _ _ _ (⟨(⟨#[50, 46, 53, 46, 52, 46, 55]⟩ : ByteArray), 12, (⟨#[76]⟩ : ByteArray)⟩ : S40) [.string (⟨#[50, 46, 53, 46, 52, 46, 55]⟩ : ByteArray), .int .i64 12, .string (⟨#[76]⟩ : ByteArray)] from (k40_mkM _ _ _ (⟨(⟨#[50, 46, 53, 46, 52, 46, 55]⟩ : ByteArray), 12, (⟨#[76]⟩ : ByteArray)⟩ : S40) )) (Reps.none _ _)))))))))))))); intro v282 w6 ho7 hb hg_ hnew_; clear hg_ hnew_; (first | rw [← Ny281.out] at ho7 | (simp only [Int.reduceToNat] at ho7; rw [← Ny281.out] at ho7)); have n0_ := qb.mk (Kd.kn (Kd.R_newB ho7 (g := gb280) (o := .cells #[.string (⟨#[]⟩ : ByteArray), .int .i64 0, .string (⟨#[]⟩ : ByteArray)] 40 (0, 0)) ca9) (keep_size (w := w) (g := g) (row := none) caw)); have n1_ := qb.mk (xd.below (by repeat (first | (with_reducible first | exact HI0.out | apply xd.alloc | apply xd.drewN | apply xd.drew | apply xd.set_1 | refine xd.far ?_ NB0_280.out _) | exact HI0.out)) hb); have n2_ := qb.mk (q8 (g := gb280) (o := .cells #[.string (⟨#[]⟩ : ByteArray), .int .i64 0, .string (⟨#[]⟩ : ByteArray)] 40 (0, 0)) ca9 hb); have n3_ := qb.mk (KeepBut.trans caw (KeepBut.of_below hb g none) (.inl rfl)); have n4_ := qb.mk (qm (by repeat (first | (with_reducible first | exact HB.out | apply qc | apply qa | apply qd | refine qe ?_ (xd.ge HI0.out) | refine qe ?_ GE280.out) | exact HB.out)) hb); clear HI0; clear BK280; clear HK; clear HB; have HO283 := n0_; have HI0 := n1_; have BK280 := n2_; have HK := n3_; have HB := n4_; clear n0_ n1_ n2_ n3_ n4_; clear hb ho7) | ((with_reducible refine zl (f := 18) rfl ?_); refine xk (some 17) rfl rfl Tryz.func18 yh rfl #[.pointer (some ⟨g, 0, none⟩), .int .i64 12] rfl cz ?_; (with_reducible refine (kw.calls g s0_0 s0_1 12 t284 t285 w0 _ ?side1 ?side2 A2.out).mono ?_); (case side1 => repeat (first | (with_reducible first | exact HI0.out | apply xd.alloc | apply xd.drewN | apply xd.drew | apply xd.set_1 | refine xd.far ?_ NB0_280.out _) | exact HI0.out)); (case side2 => repeat (first | (with_reducible first | exact HB.out | apply qc | apply qa | apply qd | refine qe ?_ (xd.ge HI0.out) | refine qe ?_ GE280.out) | exact HB.out)); rintro e w8 ⟨rfl, hi, hb, hk⟩; refine ⟨_, rfl, ?_⟩; have n0_ := qb.mk (KeepBut.blk hk (g' := gb280) (o := .cells #[.string (⟨#[]⟩ : ByteArray), .int .i64 0, .string (⟨#[]⟩ : ByteArray)] 40 (0, 0)) ca9 NB280_0.out uf); have n1_ := qb.mk (Kd.xn (Kd.R_keep (xd.apart (show xd w0 _ g s0_0 s0_1 from by repeat (first | (with_reducible first | exact HI0.out | apply xd.alloc | apply xd.drewN | apply xd.drew | apply xd.set_1 | refine xd.far ?_ NB0_280.out _) | exact HI0.out)) (by (with_reducible repeat (first | apply Kd.qw | apply Kd.qv | apply Kd.qz)); exact HO283.out) (by decide)) hk (fun _ h => h.2)) (fun _ h => h.1)); have n2_ := qb.mk (KeepBut.trans caw hk (.inl rfl)); have n3_ := qb.mk (hb); have n4_ := qb.mk (hi); clear BK280; clear HO283; clear HK; clear HB; clear HI0; have BK280 := n0_; have HO283 := n1_; have HK := n2_; have HB := n3_; have HI0 := n4_; clear n0_ n1_ n2_ n3_ n4_; (try clear hb); (try clear hb2); (try clear hk); (try clear hi); obtain ⟨Ao9, co9, eo9⟩ := Kd.xo HO283.out; subst eo9; have p286 : 0 ≤ (t284 : Int) := of_decide_eq_true yc; have q286 : t284 < (y281.length : Int) := of_decide_eq_true yc; obtain ⟨ad286, e286, hx286_0, hx286_1, hx286_2⟩ := js (Kd.zq HO283.out).2.2 t284 p286 q286; cases e286; replace p286 := eq_true p286; replace q286 := eq_true q286; have hnb10 := NB280_0.out; have hnc10 := NB0_280.out; have hcz11_0 : w8.cell? ⟨gb280, 0, none⟩ = some (.string (⟨#[]⟩ : ByteArray)) := (qo BK280.out 0).trans rfl; have hcz11_1 : w8.cell? ⟨gb280, 1, none⟩ = some (.int .i64 0) := (qo BK280.out 1).trans rfl; have hcz11_2 : w8.cell? ⟨gb280, 2, none⟩ = some (.string (⟨#[]⟩ : ByteArray)) := (qo BK280.out 2).trans rfl; have hfz11_0 := qr BK280.out 0; have hfz11_1 := qr BK280.out 1; have hfz11_2 := qr BK280.out 2))
   refine bodyPost_ret (results_cell_row rfl _ _ gb280 40 #[.string ((qk y281 t284).f0), .int .i64 ((qk y281 t284).f1), .string ((qk y281 t284).f2)] (0, 0) _ rfl (by (with_reducible repeat (first | refine qg ?_ _ | refine qh ?_ | refine qf ?_ _)); refine z6 (cs := #[.string ((qk y281 t284).f0), .int .i64 ((qk y281 t284).f1), .string (⟨#[]⟩ : ByteArray)]) ?_ 2 _ rfl; (with_reducible repeat (first | refine qg ?_ _ | refine qh ?_ | refine qf ?_ _)); refine z6 (cs := #[.string ((qk y281 t284).f0), .int .i64 0, .string (⟨#[]⟩ : ByteArray)]) ?_ 1 _ rfl; (with_reducible repeat (first | refine qg ?_ _ | refine qh ?_ | refine qf ?_ _)); refine z6 (cs := #[.string (⟨#[]⟩ : ByteArray), .int .i64 0, .string (⟨#[]⟩ : ByteArray)]) ?_ 0 _ rfl; (with_reducible repeat (first | refine qg ?_ _ | refine qh ?_ | refine qf ?_ _)); exact BK280.out) Tryz.underlying40 rfl yh) rfl ?_
   exact ⟨by first | rfl | (simp [qt, qu] <;> rfl) | (simp [*, qt, qu] <;> rfl), by repeat (first | (with_reducible first | exact HI0.out | apply xd.alloc | apply xd.drewN | apply xd.drew | apply xd.set_1 | refine xd.far ?_ NB0_280.out _) | exact HI0.out), by repeat (first | (with_reducible first | exact HB.out | apply qc | apply qa | apply qd | refine qe ?_ (xd.ge HI0.out) | refine qe ?_ GE280.out) | exact HB.out), by repeat (first | (with_reducible first | exact HK.out | apply KeepBut.set_ | apply keep_drewN | apply keep_drew | apply keep_alloc | refine keep_far ?_ GW280.out _) | exact HK.out)⟩
  ·rw [if_neg c4] at H
   exact absurd H uf
 ·rw [if_neg c3] at H
  exact absurd H uf
def strings_Join.f (a0 : List ByteArray) (a1 : ByteArray) : Option ByteArray := if a0.length ≤ 140737488355328 ∧ (Lib.join (a0.map (·.data.toList)) a1.data.toList).length ≤ 140737488355328 then some ⟨(Lib.join (a0.map (·.data.toList)) a1.data.toList).toArray⟩ else none
theorem str_cells {w : World} {A : Option Addr} {l : List ByteArray} (h : Kd.C Kd.string w A l.length l) (hl : 0 < l.length) : ∃ b o, A = some ⟨b, o, none⟩ ∧ b < w.heap.size ∧ ∀ (j : Nat) x, l[j]? = some x → w.cell? ⟨b, o + j, none⟩ = some (.string x) := by
 obtain ⟨ad, rfl, hc⟩ := h.2.2 hl
 have cell : ∀ (j : Nat) x, l[j]? = some x → w.cell? (ad.add j) = some (.string x) := fun j x hj => by
  obtain ⟨c, hlen, hK, hcell⟩ := hc j x hj
  have hc1 : c = [.string x] := hK
  subst hc1
  have := hcell 0 (.string x) rfl
  rwa [show j * Kd.string.sz + 0 = j from by rw [show Kd.string.sz = 1 from rfl, Nat.mul_one, Nat.add_zero]] at this
 obtain ⟨b, o, s⟩ := ad
 have h0 := cell 0 l[0] (List.getElem?_eq_getElem hl)
 rw [Addr.add_zero'] at h0
 have hb := World.block_lt_of_cell? w _ h0
 have hs : s = none := by
  cases s with
  | none => rfl
  | some v =>
   exfalso
   unfold World.cell? at h0
   split at h0
   ·simp at h0
   ·cases h0
 subst hs
 refine ⟨b, o, rfl, hb, fun j x hj => ?_⟩
 ·have := cell j x hj
  rwa [show (⟨b, o, none⟩ : Addr).add j = ⟨b, o + j, none⟩ from by unfold Addr.add; split <;> simp_all] at this
theorem strings_Join.calls (A0 : Option Addr) (c0 : Nat) (l0 : List ByteArray) (a1 : ByteArray) (r : ByteArray) (w : World) (hr0 : Kd.C Kd.string w A0 l0.length l0) (hc0 : l0.length ≤ c0) (h : strings_Join.f l0 a1 = some r) :
  Calls Tryz.prog 53 #[.slice A0 l0.length c0, .string a1] w fun e w' => e = .returned (.string r) ∧ Below w.heap.size w w' := by
 unfold strings_Join.f at h
 split at h
 case isFalse => exact absurd h uf
 rename_i hn
 obtain rfl := Option.some.inj h
 clear h
 rcases l0 with _ | ⟨x, l'⟩
 ·refine (Tryz.strings_Join_none A0 c0 a1 w).mono fun e w' ⟨he, hw⟩ => ?_
  subst hw
  exact ⟨he, Below.refl _ _⟩
 ·obtain ⟨b, o, rfl, hb, hcell⟩ := str_cells hr0 uf
  exact (Tryz.strings_Join b o c0 (x :: l') a1 w hcell hb hn.1 hc0 hn.2).mono fun e w' ⟨he, hw⟩ => ⟨he, hw⟩
end Go.Proofs.YthdoohfdminfgaaGreatDoor.C
end
