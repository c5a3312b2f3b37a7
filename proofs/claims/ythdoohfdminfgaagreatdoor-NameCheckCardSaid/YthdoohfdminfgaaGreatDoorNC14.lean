/- Words, walks and plain laws that the claim rests on, gathered. -/
import Derived.Below
import Derived.Deep.Draws
import Derived.Deep.AppendLies
import Derived.Maps.AppendAt
import Derived.OwnWalk
import Derived.Laws.BytesArg
import Derived.Laws.MakeOwn
import Derived.Laws.OwnMore
import Derived.Deep.OwnRows
import Derived.Tactics
import Derived.Lib.ConvBytes
import Derived.Laws.Slices
import Derived.WalkKit
import Derived.KernelRfl
import Derived.RowKit3
import Derived.Deep.LoopGhost
import Derived.Deep.QuietTactic
import Derived.BigQuiet
import Derived.WideLaws
import Derived.Deep.DeepCutAuto
import Derived.Deep.CutBlock
import Derived.Deep.RegionHeld3
import Derived.Laws.Rows
import Derived.Lib.AppendStr
import Derived.ArgAppend
import Derived.Laws.IdiomCopy
import Derived.RowKit
import Derived.Test.YthdoohfdminfgaaGreatDoorProg
import Derived.WalkSpells
import Derived.OrdersHeld
import Derived.Laws.BitsLemmas
import Derived.WalkLawsBesides
import Derived.Shelf.Strings.Builder1
import Derived.Shelf.Strings.Builder2
import Derived.Shelf.Strings.OnBuilder
import Derived.Shelf.Small.Bits
import Derived.Shelf.Small.Strs
import Derived.Shelf.Strconv.Itoa0
import Derived.Shelf.Strings.Search1
import Derived.Shelf.Strings.Search2
import Derived.Shelf.Strings.Search3
import Derived.Shelf.Strings.Cut
import Derived.Shelf.Strings.Count
import Derived.Shelf.LaysM
import Derived.Shelf.Strings.Shaped
import Derived.Shelf.Sort.Plain
import Derived.Shelf.Strings.Prefix
import Derived.Shelf.Strings.Split
import Derived.Shelf.Strings.SplitShaped
import Derived.Shelf.Unicode.DecodeSlow
import Derived.Shelf.Slices.In.SortNone
import Derived.Shelf.Slices.In.SortNone2
import Derived.Laws.StructEq
import Derived.Test.YthdoohfdminfgaaGreatDoorNC0
import Derived.Test.YthdoohfdminfgaaGreatDoorNC1
import Derived.Test.YthdoohfdminfgaaGreatDoorNC2
import Derived.Test.YthdoohfdminfgaaGreatDoorNC3
import Derived.Test.YthdoohfdminfgaaGreatDoorNC4
import Derived.Test.YthdoohfdminfgaaGreatDoorNC11
import Derived.Test.YthdoohfdminfgaaGreatDoorNC12
import Derived.Test.YthdoohfdminfgaaGreatDoorNC13
import Derived.Test.YthdoohfdminfgaaGreatDoorNCc
namespace Go.Proofs.YthdoohfdminfgaaGreatDoorW.PrintLast
end Go.Proofs.YthdoohfdminfgaaGreatDoorW.PrintLast
namespace Go.Proofs.YthdoohfdminfgaaGreatDoorW.PrintMore
end Go.Proofs.YthdoohfdminfgaaGreatDoorW.PrintMore
namespace Go.Proofs.YthdoohfdminfgaaGreatDoorW.PrintWords
end Go.Proofs.YthdoohfdminfgaaGreatDoorW.PrintWords
section
namespace Go.Proofs.YthdoohfdminfgaaGreatDoor.C
open Go.RowKit Go.Proofs.YthdoohfdminfgaaGreatDoorW.PrintWords Go.Proofs.YthdoohfdminfgaaGreatDoorW.PrintLast Go.Proofs.YthdoohfdminfgaaGreatDoorW.PrintMore
attribute [local go_sem] kc xy kr ks xh xg xz xx
set_option linter.unusedVariables false
set_option linter.unusedSimpArgs false
mutual
def zu.l0 : Nat → List ByteArray → List (List (S40)) → Int → Int → Option (ByteArray × Int)
 | 0, _, _, _, _ => none
 | k + 1, x5, x21, x22, x23 => if x23 < x22 then (if 0 ≤ x23 then (if x23 < (x21.length : Int) then (zu.l1 k x5 ([] : List ByteArray) x21 x22 x23 (zz x21 x23) ((zz x21 x23).length : Int) 0) else (none)) else (none)) else ((zw.f k 48 x5).bind fun bt336 => (some (bt336.1, bt336.2)))
def zu.l1 : Nat → List ByteArray → List ByteArray → List (List (S40)) → Int → Int → List (S40) → Int → Int → Option (ByteArray × Int)
 | 0, _, _, _, _, _, _, _, _ => none
 | k + 1, x5, x8, x21, x22, x23, x27, x28, x29 => if x29 < x28 then (if 0 ≤ x29 then (if x29 < (x27.length : Int) then ((xc.f k ((qk x27 x29).f0) ((qk x27 x29).f1) ((qk x27 x29).f2)).bind fun bt341 => (if bt341.2 = 0 then (if x8.length < 8796093022208 then (zu.l1 k x5 (x8 ++ [bt341.1]) x21 x22 x23 x27 x28 (wrap64 (x29 + 1))) else (none)) else (some ((⟨#[]⟩ : ByteArray), bt341.2)))) else (none)) else (none)) else ((tlv_Order.f x8).bind fun t346 => ((zw.f k 49 (([t346] : List ByteArray))).bind fun bt350 => (if bt350.2 = 0 then (if x5.length < 8796093022208 then (zu.l0 k (x5 ++ [bt350.1]) x21 x22 (wrap64 (x23 + 1))) else (none)) else (some ((⟨#[]⟩ : ByteArray), bt350.2)))))
end
def zu.f (k : Nat) (l0_0 : List (List (S40))) : Option (ByteArray × Int) := (zy.f k l0_0).bind fun t335 => (if t335 = 0 then (zu.l0 k ([] : List ByteArray) l0_0 (l0_0.length : Int) 0) else (some ((⟨#[]⟩ : ByteArray), t335)))
theorem zu.xl : ∀ k, (∀ y0 y1 y2 y3, LeO (zu.l0 k y0 y1 y2 y3) (zu.l0 (k + 1) y0 y1 y2 y3)) ∧ (∀ y0 y1 y2 y3 y4 y5 y6 y7, LeO (zu.l1 k y0 y1 y2 y3 y4 y5 y6 y7) (zu.l1 (k + 1) y0 y1 y2 y3 y4 y5 y6 y7))
 | 0 => ⟨fun _ _ _ _ r h => by simp [zu.l0] at h, fun _ _ _ _ _ _ _ _ r h => by simp [zu.l1] at h⟩
 | k + 1 => by
  obtain ⟨ih0, ih1⟩ := zu.xl k
  refine ⟨?_, ?_⟩
  ·intro y0 y1 y2 y3
   unfold zu.l0
   repeat' first
   | (with_reducible exact ih0 _ _ _ _)
   | (with_reducible exact ih1 _ _ _ _ _ _ _ _)
   | (with_reducible exact zy.mono _ _)
   | (with_reducible exact xc.mono _ _ _ _)
   | (with_reducible exact zw.mono _ _ _)
   | (with_reducible exact LeO.refl _)
   | (with_reducible exact LeO.none _)
   | (with_reducible refine LeO.ite ?_ ?_)
   | (with_reducible refine LeO.bind ?_ (fun _ => ?_))
  ·intro y0 y1 y2 y3 y4 y5 y6 y7
   unfold zu.l1
   repeat' first
   | (with_reducible exact ih0 _ _ _ _)
   | (with_reducible exact ih1 _ _ _ _ _ _ _ _)
   | (with_reducible exact zy.mono _ _)
   | (with_reducible exact xc.mono _ _ _ _)
   | (with_reducible exact zw.mono _ _ _)
   | (with_reducible exact LeO.refl _)
   | (with_reducible exact LeO.none _)
   | (with_reducible refine LeO.ite ?_ ?_)
   | (with_reducible refine LeO.bind ?_ (fun _ => ?_))
theorem zu.mono : ∀ a0 k, LeO (zu.f k a0) (zu.f (k + 1) a0) := by
 intro a0 k
 obtain ⟨ih0, ih1⟩ := zu.xl k
 unfold zu.f
 repeat' first
   | (with_reducible exact ih0 _ _ _ _)
   | (with_reducible exact ih1 _ _ _ _ _ _ _ _)
   | (with_reducible exact zy.mono _ _)
   | (with_reducible exact xc.mono _ _ _ _)
   | (with_reducible exact zw.mono _ _ _)
   | (with_reducible exact LeO.refl _)
   | (with_reducible exact LeO.none _)
   | (with_reducible refine LeO.ite ?_ ?_)
   | (with_reducible refine LeO.bind ?_ (fun _ => ?_))
set_option maxHeartbeats 8000000 in
set_option maxRecDepth 100000 in
theorem zu.calls (k : Nat) (A0_0 : Option Addr) (c0_0 : Nat) (l0_0 : List (List (S40))) (r1 : ByteArray) (r2 : Int) (w : World) (hG : LibHeld w) (hr0_0 : Kd.C (Kd.slice 40 k40) w A0_0 l0_0.length l0_0) (hc0_0 : l0_0.length ≤ c0_0) (h : zu.f k l0_0 = some (r1, r2)) :
  Calls Tryz.prog 20 #[.agg #[.slice A0_0 l0_0.length c0_0]] w fun e w' => e = .returned (.tuple #[.string r1, .int .i64 r2]) ∧ Below w.heap.size w w' := by
 have hu31 := Tryz.underlying31
 have hu40 := Tryz.underlying40
 have HG := qb.mk hG
 clear hG
 have HR0_0 := qb.mk hr0_0
 have HC0_0 := qb.mk hc0_0
 clear hr0_0 hc0_0
 have HB := qb.mk (Below.refl w.heap.size w)
 have H : ((zy.f k l0_0).bind fun t335 => (if t335 = 0 then (zu.l0 k ([] : List ByteArray) l0_0 (l0_0.length : Int) 0) else (some ((⟨#[]⟩ : ByteArray), t335)))) = some (r1, r2) := h
 clear h
 replace H := Option.bind_eq_some_iff.mp H
 obtain ⟨t335, A20, H⟩ := H
 replace H : (if t335 = 0 then (zu.l0 k ([] : List ByteArray) l0_0 (l0_0.length : Int) 0) else (some ((⟨#[]⟩ : ByteArray), t335))) = some (r1, r2) := H
 have A2 := qb.mk A20
 clear A20
 by_cases c3 : t335 = 0
 ·rw [if_pos c3] at H
  have c3b0 : (t335 == 0) = true := beq_iff_eq.mpr c3
  have c3b1 : (t335 != 0) = false := bne_eq_false_iff_eq.mpr c3
  clear c3
  have H' := qb.mk H
  clear H
  go_enter Tryz.func20, Tryz.ntmps20
  go_wp2_with (first | ((with_reducible refine zm (N := 1) rfl ?_); refine zx ?hg (N := 1) ?hd (cs := #[.slice A0_0 l0_0.length c0_0]) (t := 31) ?hr ?_; (case hd => rfl); (case hg => rfl); (case hr => first | (go_simp; done) | (go_simp; rfl)); intro gb334 hg w4 hbox hb; have n0_ := qb.mk (qm cu hb); have n1_ := qb.mk (hbox); have n2_ := qb.mk ((by rw [hg]; exact (qp cu) : w.heap.size ≤ gb334)); have n3_ := qb.mk ((by rw [hg]; exact (qp cu) : w.heap.size ≤ gb334)); clear HB; have HB := n0_; have BK334 := n1_; have GW334 := n2_; have GE334 := n3_; clear n0_ n1_ n2_ n3_; clear hb hbox hg; have hcz5_0 : w4.cell? ⟨gb334, 0, none⟩ = some (.slice A0_0 l0_0.length c0_0) := (qo BK334.out 0).trans rfl; have hfz5_0 := qr BK334.out 0) | ((with_reducible refine zl (f := 21) rfl ?_); refine xk (some 16) rfl rfl Tryz.func21 yh rfl #[.agg #[.slice A0_0 l0_0.length c0_0]] rfl cz ?_; (with_reducible refine (zy.calls k _ _ l0_0 t335 _ ?side3 ?side1 ?side2 A2.out).mono ?_); (case side1 => repeat (first | exact (Kd.xv HR0_0.out HB.out) | (with_reducible refine Kd.xr ?_ _) | (with_reducible refine Kd.xt ?_ _) | (with_reducible refine Kd.kp ?_))); (case side2 => exact HC0_0.out); (case side3 => exact LibHeld.below HG.out yn); rintro e w6 ⟨rfl, hb⟩; refine ⟨_, rfl, ?_⟩; have n0_ := qb.mk (q8 (g := gb334) (o := .cells #[.slice A0_0 l0_0.length c0_0] 31 (0, 0)) yw hb); have n1_ := qb.mk (qm yn hb); clear BK334; clear HB; have BK334 := n0_; have HB := n1_; clear n0_ n1_; (try clear hb); (try clear hb2); (try clear hk); (try clear hi); have hcz7_0 : w6.cell? ⟨gb334, 0, none⟩ = some (.slice A0_0 l0_0.length c0_0) := (qo BK334.out 0).trans rfl; have hfz7_0 := qr BK334.out 0))
  go_loopg [5, 23] k (fun kq v5 v23 w' => ∃ (x5_1 : List ByteArray) (x23_1 : Int), v23 = .int .i64 x23_1 ∧ qb (zu.l0 kq x5_1 l0_0 (l0_0.length : Int) x23_1 = some (r1, r2)) ∧ qb (kq ≤ k) ∧ qb (Kd.R Kd.string 9 w' w.heap.size (fun _ => True) v5 x5_1) ∧ qb (w'.heap[gb334]? = some (.cells #[(.slice A0_0 l0_0.length c0_0)] 31 (0, 0))) ∧ qb (Below w.heap.size w w'))
  case atStart => exact ⟨(([] : List ByteArray)), (0), yf, H', ⟨Nat.le_refl _⟩, ⟨by first | exact Kd.jx _ _ _ _ _ | exact Kd.N_nil _ _ _ _ _ | exact Kd.V_nil _ _ _ _ _ | exact Kd.Q_nil _ _ _ _ _ | exact Kd.S_nil _ _ _ _ _⟩, ⟨by (with_reducible repeat (first | refine qg ?_ _ | refine qh ?_ | refine qf ?_ _)); exact BK334.out⟩, ⟨by repeat (first | (with_reducible first | exact HB.out | apply qc | apply qa | apply qd | refine qe ?_ GE334.out) | exact HB.out)⟩⟩
  case round =>
   clear H'
   (try clear c2); (try clear p2); (try clear c3); (try clear c3b0); (try clear c3b1); (try clear hcz5_0); (try clear hcz7_0); (try clear hfz5_0); try clear hfz7_0
   obtain ⟨x5_1, x23_1, rfl, HA, HK1, HO_5, BK334, HB⟩ := hrel
   cases gk with
   | zero => exact absurd HA.out (by simp [zu.l0])
   | succ k1 =>
    have H := HA.out
    clear HA
    simp only [zu.l0] at H
    by_cases c8 : x23_1 < (l0_0.length : Int)
    ·rw [if_pos c8] at H
     have c8b0 : decide (x23_1 < (l0_0.length : Int)) = true := decide_eq_true c8
     clear c8
     by_cases c9 : 0 ≤ x23_1
     ·rw [if_pos c9] at H
      have c9b0 : decide (0 ≤ x23_1) = true := decide_eq_true c9
      clear c9
      by_cases c10 : x23_1 < (l0_0.length : Int)
      ·rw [if_pos c10] at H
       have c10b0 : decide (x23_1 < (l0_0.length : Int)) = true := decide_eq_true c10
       clear c10
       have H' := qb.mk H
       clear H
       have p338 : 0 ≤ (x23_1 : Int) := of_decide_eq_true yc
       have q338 : x23_1 < (l0_0.length : Int) := of_decide_eq_true yc
       obtain ⟨ad338, A338_0, c338_0, e338, hx338_0, hl338_0, hi338_0⟩ := at_L5 HR0_0.out x23_1 p338 q338
       cases e338
       replace hx338_0 := (HB.out.cell (World.block_lt_of_cell? w _ hx338_0)).trans hx338_0
       have HR338_0 := qb.mk hi338_0
       have HC338_0 := qb.mk hl338_0
       clear hi338_0 hl338_0
       replace p338 := eq_true p338
       replace q338 := eq_true q338
       go_wp2
       go_loopg [8, 29] k1 (fun kq v8 v29 w' => ∃ (x8_2 : List ByteArray) (x29_2 : Int), v29 = .int .i64 x29_2 ∧ qb (zu.l1 kq x5_1 x8_2 l0_0 (l0_0.length : Int) x23_1 (zz l0_0 x23_1) ((zz l0_0 x23_1).length : Int) x29_2 = some (r1, r2)) ∧ qb (kq ≤ k1) ∧ qb (Kd.R Kd.string 9 w' w.heap.size (fun k_ => some k_ ≠ (v8 : Value).ownBlock) u5 x5_1) ∧ qb (Kd.R Kd.string 9 w' w.heap.size (fun k_ => some k_ ≠ (u5 : Value).ownBlock) v8 x8_2) ∧ qb (w'.heap[gb334]? = some (.cells #[(.slice (some ad338) l0_0.length c0_0)] 31 (0, 0))) ∧ qb (Below w.heap.size w w'))
       case atStart => exact ⟨(([] : List ByteArray)), (0), yf, H', ⟨Nat.le_refl _⟩, ⟨by (with_reducible repeat (first | apply Kd.qw | apply Kd.qv | apply Kd.qz)); exact Kd.xn HO_5.out (fun _ hk => ca2)⟩, ⟨by first | exact Kd.jx _ _ _ _ _ | exact Kd.N_nil _ _ _ _ _ | exact Kd.V_nil _ _ _ _ _ | exact Kd.Q_nil _ _ _ _ _ | exact Kd.S_nil _ _ _ _ _⟩, ⟨by (with_reducible repeat (first | refine qg ?_ _ | refine qh ?_ | refine qf ?_ _)); exact BK334.out⟩, ⟨by repeat (first | (with_reducible first | exact HB.out | apply qc | apply qa | apply qd | refine qe ?_ GE334.out) | exact HB.out)⟩⟩
       case round =>
        clear H'
        (try clear c1); (try clear c2); (try clear p2); (try clear c3); (try clear c3b0); (try clear c3b1); (try clear p3); (try clear q3); (try clear hx3); (try clear c8); (try clear c8b0); try clear c9
        (try clear c9b0); (try clear c10); (try clear c10b0); (try clear hcz5_0); (try clear hcz7_0); (try clear hfz5_0); (try clear hfz7_0); (try clear hx338_0); (try clear p2); try clear p338
        try clear q338
        obtain ⟨x8_2, x29_2, rfl, HA, HK2, HO_5, HO_8, BK334, HB⟩ := hrel
        cases gk with
        | zero => exact absurd HA.out (by simp [zu.l1])
        | succ k2 =>
         have H := HA.out
         clear HA
         simp only [zu.l1] at H
         by_cases c11 : x29_2 < ((zz l0_0 x23_1).length : Int)
         ·rw [if_pos c11] at H
          have c11b0 : decide (x29_2 < ((zz l0_0 x23_1).length : Int)) = true := decide_eq_true c11
          clear c11
          by_cases c12 : 0 ≤ x29_2
          ·rw [if_pos c12] at H
           have c12b0 : decide (0 ≤ x29_2) = true := decide_eq_true c12
           clear c12
           by_cases c13 : x29_2 < ((zz l0_0 x23_1).length : Int)
           ·rw [if_pos c13] at H
            have c13b0 : decide (x29_2 < ((zz l0_0 x23_1).length : Int)) = true := decide_eq_true c13
            clear c13
            replace H := Option.bind_eq_some_iff.mp H
            obtain ⟨⟨t341, t342⟩, A140, H⟩ := H
            replace H : (if t342 = 0 then (if x8_2.length < 8796093022208 then (zu.l1 k2 x5_1 (x8_2 ++ [t341]) l0_0 (l0_0.length : Int) x23_1 (zz l0_0 x23_1) ((zz l0_0 x23_1).length : Int) (wrap64 (x29_2 + 1))) else (none)) else (some ((⟨#[]⟩ : ByteArray), t342))) = some (r1, r2) := H
            have A14 := qb.mk A140
            clear A140
            by_cases c15 : t342 = 0
            ·rw [if_pos c15] at H
             have c15b0 : (t342 == 0) = true := beq_iff_eq.mpr c15
             have c15b1 : (t342 != 0) = false := bne_eq_false_iff_eq.mpr c15
             clear c15
             by_cases c16 : x8_2.length < 8796093022208
             ·rw [if_pos c16] at H
              have LMc16 := qb.mk c16
              clear c16
              obtain ⟨y343, hy343⟩ : ∃ y_ : List ByteArray, y_ = (x8_2 ++ [t341]) := ⟨_, rfl⟩
              replace H : (zu.l1 k2 x5_1 y343 l0_0 (l0_0.length : Int) x23_1 (zz l0_0 x23_1) ((zz l0_0 x23_1).length : Int) (wrap64 (x29_2 + 1))) = some (r1, r2) := by first | (rw [hy343]; with_reducible exact H) | (have H2_ := (Option.bind_some _ _).symm.trans H; rw [hy343]; with_reducible exact H2_) | (have H2_ := (Option.bind_some _ _).symm.trans H; with_reducible exact H2_) | with_reducible exact H | (rw [hy343]; exact H) | exact H
              have Ny343 := qb.mk hy343
              clear hy343
              have H' := qb.mk H
              clear H
              have p339 : 0 ≤ (x29_2 : Int) := of_decide_eq_true yc
              have q339 : x29_2 < ((zz l0_0 x23_1).length : Int) := of_decide_eq_true yc
              obtain ⟨ad339, e339, hx339_0, hx339_1, hx339_2⟩ := js HR338_0.out x29_2 p339 q339
              cases e339
              replace hx339_0 := (HB.out.cell (World.block_lt_of_cell? w _ hx339_0)).trans hx339_0
              replace hx339_1 := (HB.out.cell (World.block_lt_of_cell? w _ hx339_1)).trans hx339_1
              replace hx339_2 := (HB.out.cell (World.block_lt_of_cell? w _ hx339_2)).trans hx339_2
              replace p339 := eq_true p339
              replace q339 := eq_true q339
              go_wp2_with (first | ((with_reducible refine zm (N := 10) rfl ?_); refine zx ?hg (N := 10) ?hd (cs := #[.string (⟨#[]⟩ : ByteArray), .int .i64 0, .string (⟨#[]⟩ : ByteArray)]) (t := 40) ?hr ?_; (case hd => rfl); (case hg => rfl); (case hr => first | (go_simp; done) | (go_simp; rfl)); intro gb340 hg w17 hbox hb; have n0_ := qb.mk (Kd.z8 ul hb); have n1_ := qb.mk (Kd.z8 uu hb); have n2_ := qb.mk (q8 (g := gb334) (o := .cells #[.slice (some ad338) l0_0.length c0_0] 31 (0, 0)) yw hb); have n3_ := qb.mk (qm yn hb); have n4_ := qb.mk (hbox); have n5_ := qb.mk ((by rw [hg]; exact (qp yn) : w.heap.size ≤ gb340)); have n6_ := qb.mk ((by rw [hg]; exact (qp yn) : w.heap.size ≤ gb340)); have n7_ := qb.mk ((by rw [hg]; exact Nat.ne_of_lt (xu (g := gb334) (o := .cells #[.slice (some ad338) l0_0.length c0_0] 31 (0, 0)) yw) : gb334 ≠ gb340)); have n8_ := qb.mk ((by rw [hg]; exact Nat.ne_of_gt (xu (g := gb334) (o := .cells #[.slice (some ad338) l0_0.length c0_0] 31 (0, 0)) yw) : gb340 ≠ gb334)); clear HO_5; clear HO_8; clear BK334; clear HB; have HO_5 := n0_; have HO_8 := n1_; have BK334 := n2_; have HB := n3_; have BK340 := n4_; have GW340 := n5_; have GE340 := n6_; have NB334_340 := n7_; have NB340_334 := n8_; clear n0_ n1_ n2_ n3_ n4_ n5_ n6_ n7_ n8_; clear hb hbox hg; have hnb18 := NB340_334.out; have hnc18 := NB334_340.out; have hcz19_0 : w17.cell? ⟨gb340, 0, none⟩ = some (.string (⟨#[]⟩ : ByteArray)) := (qo BK340.out 0).trans rfl; have hcz19_1 : w17.cell? ⟨gb340, 1, none⟩ = some (.int .i64 0) := (qo BK340.out 1).trans rfl; have hcz19_2 : w17.cell? ⟨gb340, 2, none⟩ = some (.string (⟨#[]⟩ : ByteArray)) := (qo BK340.out 2).trans rfl; have hfz19_0 := qr BK340.out 0; have hfz19_1 := qr BK340.out 1; have hfz19_2 := qr BK340.out 2) | ((with_reducible refine zl (f := 44) rfl ?_); refine xk (some 35) rfl rfl Tryz.func44 yh rfl #[.agg #[.string ((qk (zz l0_0 x23_1) x29_2).f0), .int .i64 ((qk (zz l0_0 x23_1) x29_2).f1), .string ((qk (zz l0_0 x23_1) x29_2).f2)]] rfl cz ?_; (with_reducible refine (xc.calls k2 ((qk (zz l0_0 x23_1) x29_2).f0) ((qk (zz l0_0 x23_1) x29_2).f1) ((qk (zz l0_0 x23_1) x29_2).f2) t341 t342 _ ?side1 A14.out).mono ?_); (case side1 => exact LibHeld.below HG.out fq); rintro e w20 ⟨rfl, hb⟩; refine ⟨_, rfl, ?_⟩; have n0_ := qb.mk (Kd.z8 (by (with_reducible repeat (first | apply Kd.qw | apply Kd.qv | apply Kd.qz)); exact (Kd.xn (Kd.jq (p := ⟨gb340, 2, none⟩) (Kd.jq (p := ⟨gb340, 1, none⟩) (Kd.jq (p := ⟨gb340, 0, none⟩) (Kd.R_types HO_5.out BK340.out (by decide)) (fun _ hk => hk.2) (.string ((qk (zz l0_0 x23_1) x29_2).f0))) (fun _ hk => hk.2) (.int .i64 ((qk (zz l0_0 x23_1) x29_2).f1))) (fun _ hk => hk.2) (.string ((qk (zz l0_0 x23_1) x29_2).f2))) (fun _ h_ => h_.1))) hb); have n1_ := qb.mk (Kd.z8 (by (with_reducible repeat (first | apply Kd.qw | apply Kd.qv | apply Kd.qz)); exact (Kd.xn (Kd.jq (p := ⟨gb340, 2, none⟩) (Kd.jq (p := ⟨gb340, 1, none⟩) (Kd.jq (p := ⟨gb340, 0, none⟩) (Kd.R_types HO_8.out BK340.out (by decide)) (fun _ hk => hk.2) (.string ((qk (zz l0_0 x23_1) x29_2).f0))) (fun _ hk => hk.2) (.int .i64 ((qk (zz l0_0 x23_1) x29_2).f1))) (fun _ hk => hk.2) (.string ((qk (zz l0_0 x23_1) x29_2).f2))) (fun _ h_ => h_.1))) hb); have n2_ := qb.mk (q8 (g := gb334) (o := .cells #[.slice (some ad338) l0_0.length c0_0] 31 (0, 0)) car hb); have n3_ := qb.mk (q8 (g := gb340) (o := .cells #[.string ((qk (zz l0_0 x23_1) x29_2).f0), .int .i64 ((qk (zz l0_0 x23_1) x29_2).f1), .string ((qk (zz l0_0 x23_1) x29_2).f2)] 40 (0, 0)) (by (with_reducible repeat (first | refine qg ?_ _ | refine qh ?_ | refine qf ?_ _)); refine z6 (cs := #[.string ((qk (zz l0_0 x23_1) x29_2).f0), .int .i64 ((qk (zz l0_0 x23_1) x29_2).f1), .string (⟨#[]⟩ : ByteArray)]) ?_ 2 _ rfl; (with_reducible repeat (first | refine qg ?_ _ | refine qh ?_ | refine qf ?_ _)); refine z6 (cs := #[.string ((qk (zz l0_0 x23_1) x29_2).f0), .int .i64 0, .string (⟨#[]⟩ : ByteArray)]) ?_ 1 _ rfl; (with_reducible repeat (first | refine qg ?_ _ | refine qh ?_ | refine qf ?_ _)); refine z6 (cs := #[.string (⟨#[]⟩ : ByteArray), .int .i64 0, .string (⟨#[]⟩ : ByteArray)]) ?_ 0 _ rfl; (with_reducible repeat (first | refine qg ?_ _ | refine qh ?_ | refine qf ?_ _)); exact BK340.out) hb); have n4_ := qb.mk (qm fq hb); clear HO_5; clear HO_8; clear BK334; clear BK340; clear HB; have HO_5 := n0_; have HO_8 := n1_; have BK334 := n2_; have BK340 := n3_; have HB := n4_; clear n0_ n1_ n2_ n3_ n4_; (try clear hb); (try clear hb2); (try clear hk); (try clear hi)) | ((with_reducible refine xp (b := .append) (xs := #[.tmp 41, .tmp 43]) rfl ?_); at_builtin; refine Kd.k9 Kd.string (w0 := w) w.heap.size rfl (.tmp 41) (.tmp 43) 34 9 (.string ⟨#[]⟩) 16 rfl Tryz.underlying34 info9 rfl (by decide) yg u8 x8_2 t341 [.string t341] (fun k_ => some k_ ≠ (u5 : Value).ownBlock) (fun _ => False) rfl rfl ?aP (fun _ hk => hk.elim) ?aF ?aO ?aB ?aS ?aL ?_; (case aP => exact rfl); (case aB => exact fq); (case aF => exact (fun k_ hk => Kd.fresh' (Kd.R_lt ul) k_ hk)); (case aO => exact uu); (case aS => exact (qp fq)); (case aL => have := LMc16.out; omega); intro v344 w21 ho hb hg hat; rw [← Ny343.out] at ho; have n0_ := qb.mk (Kd.jy (ok := (fun _ => True)) (by (with_reducible repeat (first | apply Kd.qw | apply Kd.qv | apply Kd.qz)); exact Kd.xn HO_5.out (fun _ hk => ⟨trivial, hk⟩)) hg hat); have n1_ := qb.mk (ja (g := gb334) (o := .cells #[.slice (some ad338) l0_0.length c0_0] 31 (0, 0)) yw hg (Kd.R_ne HO_8.out BK334.out (by decide))); have n2_ := qb.mk (ja (g := gb340) (o := .cells #[.string ((qk (zz l0_0 x23_1) x29_2).f0), .int .i64 ((qk (zz l0_0 x23_1) x29_2).f1), .string ((qk (zz l0_0 x23_1) x29_2).f2)] 40 (0, 0)) (by (with_reducible repeat (first | refine qg ?_ _ | refine qh ?_ | refine qf ?_ _)); exact BK340.out) hg (Kd.R_ne HO_8.out BK340.out (by decide))); have n3_ := qb.mk (hb); have n4_ := qb.mk (ho); clear HO_5; clear BK334; clear BK340; clear HB; clear HO_8; have HO_5 := n0_; have BK334 := n1_; have BK340 := n2_; have HB := n3_; have HO345 := n4_; clear n0_ n1_ n2_ n3_ n4_; clear ho hb hg hat))
              go_roundg k2
              case measure => have := HK1.out; have := HK2.out; omega
              case rel => exact ⟨(y343), (wrap64 (x29_2 + 1)), yf, H', ⟨by have := HK1.out; have := HK2.out; omega⟩, ⟨by (with_reducible repeat (first | apply Kd.qw | apply Kd.qv | apply Kd.qz)); exact Kd.xn HO_5.out (fun _ hk => hk.2)⟩, ⟨by (with_reducible repeat (first | apply Kd.qw | apply Kd.qv | apply Kd.qz)); exact HO345.out⟩, ⟨by (with_reducible repeat (first | refine qg ?_ _ | refine qh ?_ | refine qf ?_ _)); exact BK334.out⟩, ⟨by repeat (first | (with_reducible first | exact HB.out | apply qc | apply qa | apply qd | refine qe ?_ GE334.out | refine qe ?_ GE340.out) | exact HB.out)⟩⟩
             ·rw [if_neg c16] at H
              exact absurd H uf
            ·rw [if_neg c15] at H
             have c15b0 : (t342 == 0) = false := beq_eq_false_iff_ne.mpr c15
             have c15b1 : (t342 != 0) = true := bne_iff_ne.mpr c15
             simp only [Option.some.injEq, Prod.mk.injEq] at H
             obtain ⟨rfl, rfl⟩ := H
             have p339 : 0 ≤ (x29_2 : Int) := of_decide_eq_true yc
             have q339 : x29_2 < ((zz l0_0 x23_1).length : Int) := of_decide_eq_true yc
             obtain ⟨ad339, e339, hx339_0, hx339_1, hx339_2⟩ := js HR338_0.out x29_2 p339 q339
             cases e339
             replace hx339_0 := (HB.out.cell (World.block_lt_of_cell? w _ hx339_0)).trans hx339_0
             replace hx339_1 := (HB.out.cell (World.block_lt_of_cell? w _ hx339_1)).trans hx339_1
             replace hx339_2 := (HB.out.cell (World.block_lt_of_cell? w _ hx339_2)).trans hx339_2
             replace p339 := eq_true p339
             replace q339 := eq_true q339
             go_wp2_with (first | ((with_reducible refine zm (N := 10) rfl ?_); refine zx ?hg (N := 10) ?hd (cs := #[.string (⟨#[]⟩ : ByteArray), .int .i64 0, .string (⟨#[]⟩ : ByteArray)]) (t := 40) ?hr ?_; (case hd => rfl); (case hg => rfl); (case hr => first | (go_simp; done) | (go_simp; rfl)); intro gb340 hg w22 hbox hb; have n0_ := qb.mk (Kd.z8 ul hb); have n1_ := qb.mk (Kd.z8 uu hb); have n2_ := qb.mk (q8 (g := gb334) (o := .cells #[.slice (some ad338) l0_0.length c0_0] 31 (0, 0)) yw hb); have n3_ := qb.mk (qm yn hb); have n4_ := qb.mk (hbox); have n5_ := qb.mk ((by rw [hg]; exact (qp yn) : w.heap.size ≤ gb340)); have n6_ := qb.mk ((by rw [hg]; exact (qp yn) : w.heap.size ≤ gb340)); have n7_ := qb.mk ((by rw [hg]; exact Nat.ne_of_lt (xu (g := gb334) (o := .cells #[.slice (some ad338) l0_0.length c0_0] 31 (0, 0)) yw) : gb334 ≠ gb340)); have n8_ := qb.mk ((by rw [hg]; exact Nat.ne_of_gt (xu (g := gb334) (o := .cells #[.slice (some ad338) l0_0.length c0_0] 31 (0, 0)) yw) : gb340 ≠ gb334)); clear HO_5; clear HO_8; clear BK334; clear HB; have HO_5 := n0_; have HO_8 := n1_; have BK334 := n2_; have HB := n3_; have BK340 := n4_; have GW340 := n5_; have GE340 := n6_; have NB334_340 := n7_; have NB340_334 := n8_; clear n0_ n1_ n2_ n3_ n4_ n5_ n6_ n7_ n8_; clear hb hbox hg; have hnb23 := NB340_334.out; have hnc23 := NB334_340.out; have hcz24_0 : w22.cell? ⟨gb340, 0, none⟩ = some (.string (⟨#[]⟩ : ByteArray)) := (qo BK340.out 0).trans rfl; have hcz24_1 : w22.cell? ⟨gb340, 1, none⟩ = some (.int .i64 0) := (qo BK340.out 1).trans rfl; have hcz24_2 : w22.cell? ⟨gb340, 2, none⟩ = some (.string (⟨#[]⟩ : ByteArray)) := (qo BK340.out 2).trans rfl; have hfz24_0 := qr BK340.out 0; have hfz24_1 := qr BK340.out 1; have hfz24_2 := qr BK340.out 2) | ((with_reducible refine zl (f := 44) rfl ?_); refine xk (some 35) rfl rfl Tryz.func44 yh rfl #[.agg #[.string ((qk (zz l0_0 x23_1) x29_2).f0), .int .i64 ((qk (zz l0_0 x23_1) x29_2).f1), .string ((qk (zz l0_0 x23_1) x29_2).f2)]] rfl cz ?_; (with_reducible refine (xc.calls k2 ((qk (zz l0_0 x23_1) x29_2).f0) ((qk (zz l0_0 x23_1) x29_2).f1) ((qk (zz l0_0 x23_1) x29_2).f2) t341 t342 _ ?side1 A14.out).mono ?_); (case side1 => exact LibHeld.below HG.out fq); rintro e w25 ⟨rfl, hb⟩; refine ⟨_, rfl, ?_⟩; have n0_ := qb.mk (Kd.z8 (by (with_reducible repeat (first | apply Kd.qw | apply Kd.qv | apply Kd.qz)); exact (Kd.xn (Kd.jq (p := ⟨gb340, 2, none⟩) (Kd.jq (p := ⟨gb340, 1, none⟩) (Kd.jq (p := ⟨gb340, 0, none⟩) (Kd.R_types HO_5.out BK340.out (by decide)) (fun _ hk => hk.2) (.string ((qk (zz l0_0 x23_1) x29_2).f0))) (fun _ hk => hk.2) (.int .i64 ((qk (zz l0_0 x23_1) x29_2).f1))) (fun _ hk => hk.2) (.string ((qk (zz l0_0 x23_1) x29_2).f2))) (fun _ h_ => h_.1))) hb); have n1_ := qb.mk (Kd.z8 (by (with_reducible repeat (first | apply Kd.qw | apply Kd.qv | apply Kd.qz)); exact (Kd.xn (Kd.jq (p := ⟨gb340, 2, none⟩) (Kd.jq (p := ⟨gb340, 1, none⟩) (Kd.jq (p := ⟨gb340, 0, none⟩) (Kd.R_types HO_8.out BK340.out (by decide)) (fun _ hk => hk.2) (.string ((qk (zz l0_0 x23_1) x29_2).f0))) (fun _ hk => hk.2) (.int .i64 ((qk (zz l0_0 x23_1) x29_2).f1))) (fun _ hk => hk.2) (.string ((qk (zz l0_0 x23_1) x29_2).f2))) (fun _ h_ => h_.1))) hb); have n2_ := qb.mk (q8 (g := gb334) (o := .cells #[.slice (some ad338) l0_0.length c0_0] 31 (0, 0)) car hb); have n3_ := qb.mk (q8 (g := gb340) (o := .cells #[.string ((qk (zz l0_0 x23_1) x29_2).f0), .int .i64 ((qk (zz l0_0 x23_1) x29_2).f1), .string ((qk (zz l0_0 x23_1) x29_2).f2)] 40 (0, 0)) (by (with_reducible repeat (first | refine qg ?_ _ | refine qh ?_ | refine qf ?_ _)); refine z6 (cs := #[.string ((qk (zz l0_0 x23_1) x29_2).f0), .int .i64 ((qk (zz l0_0 x23_1) x29_2).f1), .string (⟨#[]⟩ : ByteArray)]) ?_ 2 _ rfl; (with_reducible repeat (first | refine qg ?_ _ | refine qh ?_ | refine qf ?_ _)); refine z6 (cs := #[.string ((qk (zz l0_0 x23_1) x29_2).f0), .int .i64 0, .string (⟨#[]⟩ : ByteArray)]) ?_ 1 _ rfl; (with_reducible repeat (first | refine qg ?_ _ | refine qh ?_ | refine qf ?_ _)); refine z6 (cs := #[.string (⟨#[]⟩ : ByteArray), .int .i64 0, .string (⟨#[]⟩ : ByteArray)]) ?_ 0 _ rfl; (with_reducible repeat (first | refine qg ?_ _ | refine qh ?_ | refine qf ?_ _)); exact BK340.out) hb); have n4_ := qb.mk (qm fq hb); clear HO_5; clear HO_8; clear BK334; clear BK340; clear HB; have HO_5 := n0_; have HO_8 := n1_; have BK334 := n2_; have BK340 := n3_; have HB := n4_; clear n0_ n1_ n2_ n3_ n4_; (try clear hb); (try clear hb2); (try clear hk); (try clear hi)))
             go_ret2
             exact ⟨by first | rfl | (simp [qt, qu] <;> rfl) | (simp [*, qt, qu] <;> rfl), by repeat (first | (with_reducible first | exact HB.out | apply qc | apply qa | apply qd | refine qe ?_ GE334.out | refine qe ?_ GE340.out) | exact HB.out)⟩
           ·rw [if_neg c13] at H
            exact absurd H uf
          ·rw [if_neg c12] at H
           exact absurd H uf
         ·rw [if_neg c11] at H
          have c11b0 : decide (x29_2 < ((zz l0_0 x23_1).length : Int)) = false := decide_eq_false c11
          clear c11
          replace H := Option.bind_eq_some_iff.mp H
          obtain ⟨t346, A260, H⟩ := H
          replace H : ((zw.f k2 49 (([t346] : List ByteArray))).bind fun bt350 => (if bt350.2 = 0 then (if x5_1.length < 8796093022208 then (zu.l0 k2 (x5_1 ++ [bt350.1]) l0_0 (l0_0.length : Int) (wrap64 (x23_1 + 1))) else (none)) else (some ((⟨#[]⟩ : ByteArray), bt350.2)))) = some (r1, r2) := H
          have A26 := qb.mk A260
          clear A260
          obtain ⟨y347, hy347⟩ : ∃ y_ : List ByteArray, y_ = (([t346] : List ByteArray)) := ⟨_, rfl⟩
          replace H : ((zw.f k2 49 y347).bind fun bt350 => (if bt350.2 = 0 then (if x5_1.length < 8796093022208 then (zu.l0 k2 (x5_1 ++ [bt350.1]) l0_0 (l0_0.length : Int) (wrap64 (x23_1 + 1))) else (none)) else (some ((⟨#[]⟩ : ByteArray), bt350.2)))) = some (r1, r2) := by first | (rw [hy347]; with_reducible exact H) | (have H2_ := (Option.bind_some _ _).symm.trans H; rw [hy347]; with_reducible exact H2_) | (have H2_ := (Option.bind_some _ _).symm.trans H; with_reducible exact H2_) | with_reducible exact H | (rw [hy347]; exact H) | exact H
          have Ny347 := qb.mk hy347
          clear hy347
          replace H := Option.bind_eq_some_iff.mp H
          obtain ⟨⟨t350, t351⟩, A270, H⟩ := H
          replace H : (if t351 = 0 then (if x5_1.length < 8796093022208 then (zu.l0 k2 (x5_1 ++ [t350]) l0_0 (l0_0.length : Int) (wrap64 (x23_1 + 1))) else (none)) else (some ((⟨#[]⟩ : ByteArray), t351))) = some (r1, r2) := H
          have A27 := qb.mk A270
          clear A270
          by_cases c28 : t351 = 0
          ·rw [if_pos c28] at H
           have c28b0 : (t351 == 0) = true := beq_iff_eq.mpr c28
           have c28b1 : (t351 != 0) = false := bne_eq_false_iff_eq.mpr c28
           clear c28
           by_cases c29 : x5_1.length < 8796093022208
           ·rw [if_pos c29] at H
            have LMc29 := qb.mk c29
            clear c29
            obtain ⟨y352, hy352⟩ : ∃ y_ : List ByteArray, y_ = (x5_1 ++ [t350]) := ⟨_, rfl⟩
            replace H : (zu.l0 k2 y352 l0_0 (l0_0.length : Int) (wrap64 (x23_1 + 1))) = some (r1, r2) := by first | (rw [hy352]; with_reducible exact H) | (have H2_ := (Option.bind_some _ _).symm.trans H; rw [hy352]; with_reducible exact H2_) | (have H2_ := (Option.bind_some _ _).symm.trans H; with_reducible exact H2_) | with_reducible exact H | (rw [hy352]; exact H) | exact H
            have Ny352 := qb.mk hy352
            clear hy352
            have H' := qb.mk H
            clear H
            obtain ⟨Ao30, co30, eo30⟩ := Kd.xo HO_8.out
            subst eo30
            go_wp2_with (first | ((with_reducible refine zl (f := 46) rfl ?_); refine xk (some 48) rfl rfl Tryz.func46 yh rfl #[.slice Ao30 x8_2.length co30] rfl cz ?_; (with_reducible refine (tlv_Order.calls _ _ x8_2 t346 _ ?side1 ?side2 A26.out).mono ?_); (case side1 => repeat (first | exact (Kd.zq HO_8.out).2.2 | (with_reducible refine Kd.xr ?_ _) | (with_reducible refine Kd.xt ?_ _) | (with_reducible refine Kd.kp ?_))); (case side2 => exact (Kd.zq HO_8.out).2.1); rintro e w31 ⟨rfl, hb⟩; refine ⟨_, rfl, ?_⟩; have n0_ := qb.mk (Kd.z8 ul hb); have n1_ := qb.mk (Kd.z8 uu hb); have n2_ := qb.mk (q8 (g := gb334) (o := .cells #[.slice (some ad338) l0_0.length c0_0] 31 (0, 0)) yw hb); have n3_ := qb.mk (qm yn hb); clear HO_5; clear HO_8; clear BK334; clear HB; have HO_5 := n0_; have HO_8 := n1_; have BK334 := n2_; have HB := n3_; clear n0_ n1_ n2_ n3_; (try clear hb); (try clear hb2); (try clear hk); (try clear hi)) | ((with_reducible refine zm (N := 49) rfl ?_); refine Kd.jz Kd.string _ 9 ?hg (N := 49) ?hd (xs := ([t346] : List ByteArray)) (inner := [.string t346]) (ok := fun _ => True) (okp := fun _ => True) ?hr ?hp (fun _ hk => hk) trivial (Below.refl _ _) (Nat.le_refl _) uf ?_; (case hd => rfl); (case hg => rfl); (case hr => first | (go_simp; done) | (go_simp; rfl)); (case hp => exact (Reps.one (show Kd.M Kd.string _ _ _ t346 [.string t346] from rfl) (Reps.none _ _))); intro v348 w32 ho33 hb hg_ hnew_; clear hg_ hnew_; (first | rw [← Ny347.out] at ho33 | (simp only [Int.reduceToNat] at ho33; rw [← Ny347.out] at ho33)); have n0_ := qb.mk (Kd.k6 ul (Kd.je ho33) hb); have n1_ := qb.mk (Kd.k6 uu (Kd.je ho33) hb); have n2_ := qb.mk (Kd.kn (Kd.jm (Kd.jm ho33 (Kd.R_lt ul)) (Kd.R_lt uu)) (qp yn)); have n3_ := qb.mk (q8 (g := gb334) (o := .cells #[.slice (some ad338) l0_0.length c0_0] 31 (0, 0)) yw hb); have n4_ := qb.mk (qm yn hb); clear HO_5; clear HO_8; clear BK334; clear HB; have HO_5 := n0_; have HO_8 := n1_; have HO349 := n2_; have BK334 := n3_; have HB := n4_; clear n0_ n1_ n2_ n3_ n4_; clear hb ho33; obtain ⟨Ao34, co34, eo34⟩ := Kd.xo HO349.out; subst eo34) | ((with_reducible refine zl (f := 45) rfl ?_); refine xk (some 50) rfl rfl Tryz.func45 yh rfl #[.int .i64 49, .slice Ao34 y347.length co34] rfl cz ?_; (with_reducible refine (zw.calls k2 49 _ _ y347 t350 t351 _ ?side1 ?side2 A27.out).mono ?_); (case side1 => repeat (first | exact (Kd.zq HO349.out).2.2 | (with_reducible refine Kd.xr ?_ _) | (with_reducible refine Kd.xt ?_ _) | (with_reducible refine Kd.kp ?_))); (case side2 => exact (Kd.zq HO349.out).2.1); rintro e w35 ⟨rfl, hb⟩; refine ⟨_, rfl, ?_⟩; have n0_ := qb.mk (Kd.z8 ul hb); have n1_ := qb.mk (Kd.z8 uu hb); have n2_ := qb.mk (Kd.z8 cbb hb); have n3_ := qb.mk (q8 (g := gb334) (o := .cells #[.slice (some ad338) l0_0.length c0_0] 31 (0, 0)) yw hb); have n4_ := qb.mk (qm yn hb); clear HO_5; clear HO_8; clear HO349; clear BK334; clear HB; have HO_5 := n0_; have HO_8 := n1_; have HO349 := n2_; have BK334 := n3_; have HB := n4_; clear n0_ n1_ n2_ n3_ n4_; (try clear hb); (try clear hb2); (try clear hk); (try clear hi)) | ((with_reducible refine xp (b := .append) (xs := #[.tmp 56, .tmp 58]) rfl ?_); at_builtin; refine Kd.k9 Kd.string (w0 := w) w.heap.size rfl (.tmp 56) (.tmp 58) 34 9 (.string ⟨#[]⟩) 16 rfl Tryz.underlying34 info9 rfl (by decide) yg u5 x5_1 t350 [.string t350] (fun k_ => some k_ ≠ (.slice Ao30 x8_2.length co30 : Value).ownBlock ∧ some k_ ≠ (.slice Ao34 y347.length co34 : Value).ownBlock) (fun _ => False) rfl rfl ?aP (fun _ hk => hk.elim) ?aF ?aO ?aB ?aS ?aL ?_; (case aP => exact rfl); (case aB => exact yn); (case aF => exact (fun k_ hk => ⟨Kd.fresh' (Kd.R_lt uu) k_ hk, Kd.fresh' (Kd.R_lt cbb) k_ hk⟩)); (case aO => exact ul); (case aS => exact (qp yn)); (case aL => have := LMc29.out; omega); intro v353 w36 ho hb hg hat; rw [← Ny352.out] at ho; have n0_ := qb.mk (Kd.jy (ok := (fun k_ => some k_ ≠ (.slice Ao34 y347.length co34 : Value).ownBlock)) (by (with_reducible repeat (first | apply Kd.qw | apply Kd.qv | apply Kd.qz)); exact Kd.xn HO_8.out (fun _ hk => ⟨hk.2, hk.1⟩)) hg hat); have n1_ := qb.mk (ja (g := gb334) (o := .cells #[.slice (some ad338) l0_0.length c0_0] 31 (0, 0)) yw hg (Kd.R_ne HO_5.out BK334.out (by decide))); have n2_ := qb.mk (Kd.jy (ok := (fun k_ => some k_ ≠ (.slice Ao30 x8_2.length co30 : Value).ownBlock)) (by (with_reducible repeat (first | apply Kd.qw | apply Kd.qv | apply Kd.qz)); exact Kd.xn HO349.out (fun _ hk => ⟨hk.2, hk.1.2⟩)) hg hat); have n3_ := qb.mk (hb); have n4_ := qb.mk (ho); clear HO_8; clear BK334; clear HO349; clear HB; clear HO_5; have HO_8 := n0_; have BK334 := n1_; have HO349 := n2_; have HB := n3_; have HO354 := n4_; clear n0_ n1_ n2_ n3_ n4_; clear ho hb hg hat))
            go_roundg k2
            case measure => have := HK1.out; have := HK2.out; omega
            case rel => exact ⟨(y352), (wrap64 (x23_1 + 1)), yf, H', ⟨by have := HK1.out; have := HK2.out; omega⟩, ⟨by (with_reducible repeat (first | apply Kd.qw | apply Kd.qv | apply Kd.qz)); exact Kd.xn HO354.out (fun _ hk => trivial)⟩, ⟨by (with_reducible repeat (first | refine qg ?_ _ | refine qh ?_ | refine qf ?_ _)); exact BK334.out⟩, ⟨by repeat (first | (with_reducible first | exact HB.out | apply qc | apply qa | apply qd | refine qe ?_ GE334.out) | exact HB.out)⟩⟩
           ·rw [if_neg c29] at H
            exact absurd H uf
          ·rw [if_neg c28] at H
           have c28b0 : (t351 == 0) = false := beq_eq_false_iff_ne.mpr c28
           have c28b1 : (t351 != 0) = true := bne_iff_ne.mpr c28
           simp only [Option.some.injEq, Prod.mk.injEq] at H
           obtain ⟨rfl, rfl⟩ := H
           obtain ⟨Ao37, co37, eo37⟩ := Kd.xo HO_8.out
           subst eo37
           go_wp2_with (first | ((with_reducible refine zl (f := 46) rfl ?_); refine xk (some 48) rfl rfl Tryz.func46 yh rfl #[.slice Ao37 x8_2.length co37] rfl cz ?_; (with_reducible refine (tlv_Order.calls _ _ x8_2 t346 _ ?side1 ?side2 A26.out).mono ?_); (case side1 => repeat (first | exact (Kd.zq HO_8.out).2.2 | (with_reducible refine Kd.xr ?_ _) | (with_reducible refine Kd.xt ?_ _) | (with_reducible refine Kd.kp ?_))); (case side2 => exact (Kd.zq HO_8.out).2.1); rintro e w38 ⟨rfl, hb⟩; refine ⟨_, rfl, ?_⟩; have n0_ := qb.mk (Kd.z8 ul hb); have n1_ := qb.mk (Kd.z8 uu hb); have n2_ := qb.mk (q8 (g := gb334) (o := .cells #[.slice (some ad338) l0_0.length c0_0] 31 (0, 0)) yw hb); have n3_ := qb.mk (qm yn hb); clear HO_5; clear HO_8; clear BK334; clear HB; have HO_5 := n0_; have HO_8 := n1_; have BK334 := n2_; have HB := n3_; clear n0_ n1_ n2_ n3_; (try clear hb); (try clear hb2); (try clear hk); (try clear hi)) | ((with_reducible refine zm (N := 49) rfl ?_); refine Kd.jz Kd.string _ 9 ?hg (N := 49) ?hd (xs := ([t346] : List ByteArray)) (inner := [.string t346]) (ok := fun _ => True) (okp := fun _ => True) ?hr ?hp (fun _ hk => hk) trivial (Below.refl _ _) (Nat.le_refl _) uf ?_; (case hd => rfl); (case hg => rfl); (case hr => first | (go_simp; done) | (go_simp; rfl)); (case hp => exact (Reps.one (show Kd.M Kd.string _ _ _ t346 [.string t346] from rfl) (Reps.none _ _))); intro v348 w39 ho40 hb hg_ hnew_; clear hg_ hnew_; (first | rw [← Ny347.out] at ho40 | (simp only [Int.reduceToNat] at ho40; rw [← Ny347.out] at ho40)); have n0_ := qb.mk (Kd.k6 ul (Kd.je ho40) hb); have n1_ := qb.mk (Kd.k6 uu (Kd.je ho40) hb); have n2_ := qb.mk (Kd.kn (Kd.jm (Kd.jm ho40 (Kd.R_lt ul)) (Kd.R_lt uu)) (qp yn)); have n3_ := qb.mk (q8 (g := gb334) (o := .cells #[.slice (some ad338) l0_0.length c0_0] 31 (0, 0)) yw hb); have n4_ := qb.mk (qm yn hb); clear HO_5; clear HO_8; clear BK334; clear HB; have HO_5 := n0_; have HO_8 := n1_; have HO349 := n2_; have BK334 := n3_; have HB := n4_; clear n0_ n1_ n2_ n3_ n4_; clear hb ho40; obtain ⟨Ao41, co41, eo41⟩ := Kd.xo HO349.out; subst eo41) | ((with_reducible refine zl (f := 45) rfl ?_); refine xk (some 50) rfl rfl Tryz.func45 yh rfl #[.int .i64 49, .slice Ao41 y347.length co41] rfl cz ?_; (with_reducible refine (zw.calls k2 49 _ _ y347 t350 t351 _ ?side1 ?side2 A27.out).mono ?_); (case side1 => repeat (first | exact (Kd.zq HO349.out).2.2 | (with_reducible refine Kd.xr ?_ _) | (with_reducible refine Kd.xt ?_ _) | (with_reducible refine Kd.kp ?_))); (case side2 => exact (Kd.zq HO349.out).2.1); rintro e w42 ⟨rfl, hb⟩; refine ⟨_, rfl, ?_⟩; have n0_ := qb.mk (Kd.z8 ul hb); have n1_ := qb.mk (Kd.z8 uu hb); have n2_ := qb.mk (Kd.z8 cbb hb); have n3_ := qb.mk (q8 (g := gb334) (o := .cells #[.slice (some ad338) l0_0.length c0_0] 31 (0, 0)) yw hb); have n4_ := qb.mk (qm yn hb); clear HO_5; clear HO_8; clear HO349; clear BK334; clear HB; have HO_5 := n0_; have HO_8 := n1_; have HO349 := n2_; have BK334 := n3_; have HB := n4_; clear n0_ n1_ n2_ n3_ n4_; (try clear hb); (try clear hb2); (try clear hk); (try clear hi)))
           go_ret2
           exact ⟨by first | rfl | (simp [qt, qu] <;> rfl) | (simp [*, qt, qu] <;> rfl), by repeat (first | (with_reducible first | exact HB.out | apply qc | apply qa | apply qd | refine qe ?_ GE334.out) | exact HB.out)⟩
      ·rw [if_neg c10] at H
       exact absurd H uf
     ·rw [if_neg c9] at H
      exact absurd H uf
    ·rw [if_neg c8] at H
     have c8b0 : decide (x23_1 < (l0_0.length : Int)) = false := decide_eq_false c8
     clear c8
     replace H := Option.bind_eq_some_iff.mp H
     obtain ⟨⟨t336, t337⟩, A430, H⟩ := H
     replace H : (some (t336, t337)) = some (r1, r2) := H
     have A43 := qb.mk A430
     clear A430
     simp only [Option.some.injEq, Prod.mk.injEq] at H
     obtain ⟨rfl, rfl⟩ := H
     obtain ⟨Ao44, co44, eo44⟩ := Kd.xo HO_5.out
     subst eo44
     go_wp2_with (first | ((with_reducible refine zl (f := 45) rfl ?_); refine xk (some 62) rfl rfl Tryz.func45 yh rfl #[.int .i64 48, .slice Ao44 x5_1.length co44] rfl cz ?_; (with_reducible refine (zw.calls k1 48 _ _ x5_1 t336 t337 _ ?side1 ?side2 A43.out).mono ?_); (case side1 => repeat (first | exact (Kd.zq HO_5.out).2.2 | (with_reducible refine Kd.xr ?_ _) | (with_reducible refine Kd.xt ?_ _) | (with_reducible refine Kd.kp ?_))); (case side2 => exact (Kd.zq HO_5.out).2.1); rintro e w45 ⟨rfl, hb⟩; refine ⟨_, rfl, ?_⟩; have n0_ := qb.mk (Kd.z8 ul hb); have n1_ := qb.mk (q8 (g := gb334) (o := .cells #[.slice A0_0 l0_0.length c0_0] 31 (0, 0)) yw hb); have n2_ := qb.mk (qm yn hb); clear HO_5; clear BK334; clear HB; have HO_5 := n0_; have BK334 := n1_; have HB := n2_; clear n0_ n1_ n2_; (try clear hb); (try clear hb2); (try clear hk); (try clear hi)))
     go_ret2
     exact ⟨by first | rfl | (simp [qt, qu] <;> rfl) | (simp [*, qt, qu] <;> rfl), by repeat (first | (with_reducible first | exact HB.out | apply qc | apply qa | apply qd | refine qe ?_ GE334.out) | exact HB.out)⟩
 ·rw [if_neg c3] at H
  have c3b0 : (t335 == 0) = false := beq_eq_false_iff_ne.mpr c3
  have c3b1 : (t335 != 0) = true := bne_iff_ne.mpr c3
  simp only [Option.some.injEq, Prod.mk.injEq] at H
  obtain ⟨rfl, rfl⟩ := H
  go_enter Tryz.func20, Tryz.ntmps20
  go_wp2_with (first | ((with_reducible refine zm (N := 1) rfl ?_); refine zx ?hg (N := 1) ?hd (cs := #[.slice A0_0 l0_0.length c0_0]) (t := 31) ?hr ?_; (case hd => rfl); (case hg => rfl); (case hr => first | (go_simp; done) | (go_simp; rfl)); intro gb334 hg w46 hbox hb; have n0_ := qb.mk (qm cu hb); have n1_ := qb.mk (hbox); have n2_ := qb.mk ((by rw [hg]; exact (qp cu) : w.heap.size ≤ gb334)); have n3_ := qb.mk ((by rw [hg]; exact (qp cu) : w.heap.size ≤ gb334)); clear HB; have HB := n0_; have BK334 := n1_; have GW334 := n2_; have GE334 := n3_; clear n0_ n1_ n2_ n3_; clear hb hbox hg; have hcz47_0 : w46.cell? ⟨gb334, 0, none⟩ = some (.slice A0_0 l0_0.length c0_0) := (qo BK334.out 0).trans rfl; have hfz47_0 := qr BK334.out 0) | ((with_reducible refine zl (f := 21) rfl ?_); refine xk (some 16) rfl rfl Tryz.func21 yh rfl #[.agg #[.slice A0_0 l0_0.length c0_0]] rfl cz ?_; (with_reducible refine (zy.calls k _ _ l0_0 t335 _ ?side3 ?side1 ?side2 A2.out).mono ?_); (case side1 => repeat (first | exact (Kd.xv HR0_0.out HB.out) | (with_reducible refine Kd.xr ?_ _) | (with_reducible refine Kd.xt ?_ _) | (with_reducible refine Kd.kp ?_))); (case side2 => exact HC0_0.out); (case side3 => exact LibHeld.below HG.out yn); rintro e w48 ⟨rfl, hb⟩; refine ⟨_, rfl, ?_⟩; have n0_ := qb.mk (q8 (g := gb334) (o := .cells #[.slice A0_0 l0_0.length c0_0] 31 (0, 0)) yw hb); have n1_ := qb.mk (qm yn hb); clear BK334; clear HB; have BK334 := n0_; have HB := n1_; clear n0_ n1_; (try clear hb); (try clear hb2); (try clear hk); (try clear hi)))
  go_ret2
  exact ⟨by first | rfl | (simp [qt, qu] <;> rfl) | (simp [*, qt, qu] <;> rfl), by repeat (first | (with_reducible first | exact HB.out | apply qc | apply qa | apply qd | refine qe ?_ GE334.out) | exact HB.out)⟩
end Go.Proofs.YthdoohfdminfgaaGreatDoor.C
end
section
namespace Go.Proofs.YthdoohfdminfgaaGreatDoor.C
open Go.RowKit Go.Proofs.YthdoohfdminfgaaGreatDoorW.PrintWords Go.Proofs.YthdoohfdminfgaaGreatDoorW.PrintLast Go.Proofs.YthdoohfdminfgaaGreatDoorW.PrintMore
attribute [local go_sem] kc xy kr ks xh xg xz xx
set_option linter.unusedVariables false
set_option linter.unusedSimpArgs false
mutual
def zh.j0 : Nat → Int → List ByteArray → Bool → Option (ByteArray × Int)
 | 0, _, _, _ => none
 | k + 1, x0, x1, x21 => if x21 = true then (some ((⟨#[]⟩ : ByteArray), 5)) else (zh.l0 k x0 (⟨#[]⟩ : ByteArray) x1 (x1.length : Int) 0)
def zh.l0 : Nat → Int → ByteArray → List ByteArray → Int → Int → Option (ByteArray × Int)
 | 0, _, _, _, _, _ => none
 | k + 1, x0, x6, x22, x23, x24 => if x24 < x23 then (if 0 ≤ x24 then (if x24 < (x22.length : Int) then (if x6.size + (rdOf ByteArray.empty x22 x24).size ≤ 9223372036854775807 then (zh.l0 k x0 (x6 ++ (rdOf ByteArray.empty x22 x24)) x22 x23 (wrap64 (x24 + 1))) else (none)) else (none)) else (none)) else (if (x6.size : Int) > 131072 then (some ((⟨#[]⟩ : ByteArray), 6)) else ((some (([(x0) % 256, ((x6.size : Int)) % 256] : List Int) : List Int)).bind fun y356 => (if (x6.size : Int) ≥ 65536 then ((some (([(x0) % 256, 131, ((x6.size : Int) / 65536) % 256, ((x6.size : Int) / 256) % 256, ((x6.size : Int)) % 256] : List Int) : List Int)).bind fun y359 => (if (strOfNums y359).size + x6.size ≤ 9223372036854775807 then (some ((strOfNums y359) ++ x6, 0)) else (none))) else (if (x6.size : Int) ≥ 256 then ((some (([(x0) % 256, 130, ((x6.size : Int) / 256) % 256, ((x6.size : Int)) % 256] : List Int) : List Int)).bind fun y362 => (if (strOfNums y362).size + x6.size ≤ 9223372036854775807 then (some ((strOfNums y362) ++ x6, 0)) else (none))) else (if (x6.size : Int) ≥ 128 then ((some (([(x0) % 256, 129, ((x6.size : Int)) % 256] : List Int) : List Int)).bind fun y365 => (if (strOfNums y365).size + x6.size ≤ 9223372036854775807 then (some ((strOfNums y365) ++ x6, 0)) else (none))) else (if (strOfNums y356).size + x6.size ≤ 9223372036854775807 then (some ((strOfNums y356) ++ x6, 0)) else (none)))))))
end
def zh.f (k : Nat) (a0 : Int) (l1 : List ByteArray) : Option (ByteArray × Int) := if a0 < 0 then (zh.j0 k a0 l1 true) else (if a0 > 255 then (zh.j0 k a0 l1 true) else (zh.j0 k a0 l1 ((Int.tmod a0 32) == 31)))
theorem zh.xl : ∀ k, (∀ y0 y1 y2, LeO (zh.j0 k y0 y1 y2) (zh.j0 (k + 1) y0 y1 y2)) ∧ (∀ y0 y1 y2 y3 y4, LeO (zh.l0 k y0 y1 y2 y3 y4) (zh.l0 (k + 1) y0 y1 y2 y3 y4))
 | 0 => ⟨fun _ _ _ r h => by simp [zh.j0] at h, fun _ _ _ _ _ r h => by simp [zh.l0] at h⟩
 | k + 1 => by
  obtain ⟨ih0, ih1⟩ := zh.xl k
  refine ⟨?_, ?_⟩
  ·intro y0 y1 y2
   unfold zh.j0
   repeat' first
   | (with_reducible exact ih0 _ _ _)
   | (with_reducible exact ih1 _ _ _ _ _)
   | (with_reducible exact LeO.refl _)
   | (with_reducible exact LeO.none _)
   | (with_reducible refine LeO.ite ?_ ?_)
   | (with_reducible refine LeO.bind ?_ (fun _ => ?_))
  ·intro y0 y1 y2 y3 y4
   unfold zh.l0
   repeat' first
   | (with_reducible exact ih0 _ _ _)
   | (with_reducible exact ih1 _ _ _ _ _)
   | (with_reducible exact LeO.refl _)
   | (with_reducible exact LeO.none _)
   | (with_reducible refine LeO.ite ?_ ?_)
   | (with_reducible refine LeO.bind ?_ (fun _ => ?_))
theorem zh.mono : ∀ a0 a1 k, LeO (zh.f k a0 a1) (zh.f (k + 1) a0 a1) := by
 intro a0 a1 k
 obtain ⟨ih0, ih1⟩ := zh.xl k
 unfold zh.f
 repeat' first
   | (with_reducible exact ih0 _ _ _)
   | (with_reducible exact ih1 _ _ _ _ _)
   | (with_reducible exact LeO.refl _)
   | (with_reducible exact LeO.none _)
   | (with_reducible refine LeO.ite ?_ ?_)
   | (with_reducible refine LeO.bind ?_ (fun _ => ?_))
set_option maxHeartbeats 8000000 in
set_option maxRecDepth 100000 in
theorem zh.calls (k : Nat) (a0 : Int) (A1 : Option Addr) (c1 : Nat) (l1 : List ByteArray) (r1 : ByteArray) (r2 : Int) (w : World) (hr1 : Kd.C Kd.string w A1 l1.length l1) (hc1 : l1.length ≤ c1) (h : zh.f k a0 l1 = some (r1, r2)) :
  Calls Tryz.prog 64 #[.int .i64 a0, .slice A1 l1.length c1] w fun e w' => e = .returned (.tuple #[.string r1, .int .i64 r2]) ∧ Below w.heap.size w w' := by
 have HR1 := qb.mk hr1
 have HC1 := qb.mk hc1
 clear hr1 hc1
 have HB := qb.mk (Below.refl w.heap.size w)
 have H : (if a0 < 0 then (zh.j0 k a0 l1 true) else (if a0 > 255 then (zh.j0 k a0 l1 true) else (zh.j0 k a0 l1 ((Int.tmod a0 32) == 31)))) = some (r1, r2) := h
 clear h
 have HC3 := qb.mk H
 clear H
 go_enter Tryz.func64, Tryz.ntmps64
 go_upto_region 1 with (fail)
 go_cut [21] (fun v21 wc => ∃ (kq : Nat) (x21_2 : Bool), v21 = .bool x21_2 ∧ qb (zh.j0 kq a0 l1 x21_2 = some (r1, r2)) ∧ qb (kq ≤ k) ∧ qb (Below w.heap.size w wc))
 case first =>
  have H := HC3.out
  clear HC3
  by_cases c4 : a0 < 0
  ·rw [if_pos c4] at H
   have c4b0 : decide (a0 < 0) = true := decide_eq_true c4
   clear c4
   (first | rw [c4b0] | (simp only [zo, zr]; rw [c4b0]) | skip)
   have H' := qb.mk H
   clear H
   go_wp2
   go_meet
   case rel => exact ⟨_, (true), yf, H', ⟨by first | omega | exact Nat.le_refl _⟩, ⟨by repeat (first | (with_reducible first | exact HB.out | apply qc | apply qa | apply qd) | exact HB.out)⟩⟩
  ·rw [if_neg c4] at H
   have c4b0 : decide (a0 < 0) = false := decide_eq_false c4
   clear c4
   (first | rw [c4b0] | (simp only [zo, zr]; rw [c4b0]) | skip)
   by_cases c5 : a0 > 255
   ·rw [if_pos c5] at H
    have c5b0 : decide (255 < a0) = true := decide_eq_true c5
    clear c5
    have H' := qb.mk H
    clear H
    go_wp2
    go_meet
    case rel => exact ⟨_, (true), yf, H', ⟨by first | omega | exact Nat.le_refl _⟩, ⟨by repeat (first | (with_reducible first | exact HB.out | apply qc | apply qa | apply qd) | exact HB.out)⟩⟩
   ·rw [if_neg c5] at H
    have c5b0 : decide (255 < a0) = false := decide_eq_false c5
    clear c5
    have H' := qb.mk H
    clear H
    go_wp2
    go_meet
    case rel => exact ⟨_, (((Int.tmod a0 32) == 31)), yf, H', ⟨by first | omega | exact Nat.le_refl _⟩, ⟨by repeat (first | (with_reducible first | exact HB.out | apply qc | apply qa | apply qd) | exact HB.out)⟩⟩
 case rest =>
  clear HC3
  (try clear c1); (try clear p2); (try clear c4); (try clear c4b0); (try clear c5); try clear c5b0
  obtain ⟨kq, x21_2, rfl, HA, HJ2, HB⟩ := hcut
  cases kq with
  | zero => exact absurd HA.out (by simp [zh.j0])
  | succ kj2 =>
   have H := HA.out
   clear HA
   simp only [zh.j0] at H
   by_cases c6 : x21_2 = true
   ·subst c6
    have H1 : (some ((⟨#[]⟩ : ByteArray), 5)) = some (r1, r2) := by rw [if_pos rfl] at H; exact H
    clear H
    have H := H1
    clear H1
    simp only [Option.some.injEq, Prod.mk.injEq] at H
    obtain ⟨rfl, rfl⟩ := H
    go_wp2
    go_ret2
    exact ⟨by first | rfl | (simp [qt, qu] <;> rfl) | (simp [*, qt, qu] <;> rfl), by repeat (first | (with_reducible first | exact HB.out | apply qc | apply qa | apply qd) | exact HB.out)⟩
   ·replace c6 := Bool.eq_false_iff.mpr c6
    subst c6
    have H1 : (zh.l0 kj2 a0 (⟨#[]⟩ : ByteArray) l1 (l1.length : Int) 0) = some (r1, r2) := by rw [if_neg (show ¬ (false = true) by decide)] at H; exact H
    clear H
    have H := H1
    clear H1
    have H' := qb.mk H
    clear H
    go_wp2
    go_loopg [6, 24] kj2 (fun kq v6 v24 w' => ∃ (x6_2 : ByteArray) (x24_2 : Int), v6 = .string x6_2 ∧ v24 = .int .i64 x24_2 ∧ qb (zh.l0 kq a0 x6_2 l1 (l1.length : Int) x24_2 = some (r1, r2)) ∧ qb (kq ≤ kj2) ∧ qb (Below w.heap.size w w'))
    case atStart => exact ⟨((⟨#[]⟩ : ByteArray)), (0), yf, yf, H', ⟨Nat.le_refl _⟩, ⟨by repeat (first | (with_reducible first | exact HB.out | apply qc | apply qa | apply qd) | exact HB.out)⟩⟩
    case round =>
     clear H'
     (try clear c1); (try clear p2); (try clear c4); (try clear c4b0); (try clear c5); (try clear c5b0); (try clear c6); try clear p2
     obtain ⟨x6_2, x24_2, rfl, rfl, HA, HK2, HB⟩ := hrel
     cases gk with
     | zero => exact absurd HA.out (by simp [zh.l0])
     | succ k2 =>
      have H := HA.out
      clear HA
      simp only [zh.l0] at H
      by_cases c7 : x24_2 < (l1.length : Int)
      ·rw [if_pos c7] at H
       have c7b0 : decide (x24_2 < (l1.length : Int)) = true := decide_eq_true c7
       clear c7
       by_cases c8 : 0 ≤ x24_2
       ·rw [if_pos c8] at H
        have c8b0 : decide (0 ≤ x24_2) = true := decide_eq_true c8
        clear c8
        by_cases c9 : x24_2 < (l1.length : Int)
        ·rw [if_pos c9] at H
         have c9b0 : decide (x24_2 < (l1.length : Int)) = true := decide_eq_true c9
         clear c9
         by_cases c10 : x6_2.size + (rdOf ByteArray.empty l1 x24_2).size ≤ 9223372036854775807
         ·rw [if_pos c10] at H
          have c10b0 := eq_true c10
          have c10b1 : decide (x6_2.size + (rdOf ByteArray.empty l1 x24_2).size ≤ 9223372036854775807) = true := decide_eq_true c10
          try have c10b2 : (9223372036854775807 < x6_2.size + (rdOf ByteArray.empty l1 x24_2).size) = False := eq_false (Nat.not_lt.2 c10)
          have H' := qb.mk H
          clear H
          have p355 : 0 ≤ (x24_2 : Int) := of_decide_eq_true yc
          have q355 : x24_2 < (l1.length : Int) := of_decide_eq_true yc
          obtain ⟨ad355, e355, hx355_0⟩ := Kd.at_string HR1.out x24_2 p355 q355
          cases e355
          replace hx355_0 := (HB.out.cell (World.block_lt_of_cell? w _ hx355_0)).trans hx355_0
          replace p355 := eq_true p355
          replace q355 := eq_true q355
          go_wp2
          go_roundg k2
          case measure => have := HJ2.out; have := HK2.out; omega
          case rel => exact ⟨(x6_2 ++ (rdOf ByteArray.empty l1 x24_2)), (wrap64 (x24_2 + 1)), yf, yf, H', ⟨by have := HJ2.out; have := HK2.out; omega⟩, ⟨by repeat (first | (with_reducible first | exact HB.out | apply qc | apply qa | apply qd) | exact HB.out)⟩⟩
         ·rw [if_neg c10] at H
          exact absurd H uf
        ·rw [if_neg c9] at H
         exact absurd H uf
       ·rw [if_neg c8] at H
        exact absurd H uf
      ·rw [if_neg c7] at H
       have c7b0 : decide (x24_2 < (l1.length : Int)) = false := decide_eq_false c7
       clear c7
       by_cases c11 : (x6_2.size : Int) > 131072
       ·rw [if_pos c11] at H
        have c11b0 : decide (131072 < (x6_2.size : Int)) = true := decide_eq_true c11
        have c11b1 : decide (131072 < x6_2.size) = true := decide_eq_true yg
        clear c11
        simp only [Option.some.injEq, Prod.mk.injEq] at H
        obtain ⟨rfl, rfl⟩ := H
        go_wp2
        go_ret2
        exact ⟨by first | rfl | (simp [qt, qu] <;> rfl) | (simp [*, qt, qu] <;> rfl), by repeat (first | (with_reducible first | exact HB.out | apply qc | apply qa | apply qd) | exact HB.out)⟩
       ·rw [if_neg c11] at H
        have c11b0 : decide (131072 < (x6_2.size : Int)) = false := decide_eq_false c11
        have c11b1 : decide (131072 < x6_2.size) = false := decide_eq_false yg
        clear c11
        obtain ⟨y356, hy356⟩ : ∃ y_ : List Int, y_ = (([(a0) % 256, ((x6_2.size : Int)) % 256] : List Int)) := ⟨_, rfl⟩
        replace H : (if (x6_2.size : Int) ≥ 65536 then ((some (([(a0) % 256, 131, ((x6_2.size : Int) / 65536) % 256, ((x6_2.size : Int) / 256) % 256, ((x6_2.size : Int)) % 256] : List Int) : List Int)).bind fun y359 => (if (strOfNums y359).size + x6_2.size ≤ 9223372036854775807 then (some ((strOfNums y359) ++ x6_2, 0)) else (none))) else (if (x6_2.size : Int) ≥ 256 then ((some (([(a0) % 256, 130, ((x6_2.size : Int) / 256) % 256, ((x6_2.size : Int)) % 256] : List Int) : List Int)).bind fun y362 => (if (strOfNums y362).size + x6_2.size ≤ 9223372036854775807 then (some ((strOfNums y362) ++ x6_2, 0)) else (none))) else (if (x6_2.size : Int) ≥ 128 then ((some (([(a0) % 256, 129, ((x6_2.size : Int)) % 256] : List Int) : List Int)).bind fun y365 => (if (strOfNums y365).size + x6_2.size ≤ 9223372036854775807 then (some ((strOfNums y365) ++ x6_2, 0)) else (none))) else (if (strOfNums y356).size + x6_2.size ≤ 9223372036854775807 then (some ((strOfNums y356) ++ x6_2, 0)) else (none))))) = some (r1, r2) := by first | (rw [hy356]; with_reducible exact H) | (have H2_ := (Option.bind_some _ _).symm.trans H; rw [hy356]; with_reducible exact H2_) | (have H2_ := (Option.bind_some _ _).symm.trans H; with_reducible exact H2_) | with_reducible exact H | (rw [hy356]; exact H) | exact H
        have Ny356 := qb.mk hy356
        clear hy356
        by_cases c12 : (x6_2.size : Int) ≥ 65536
        ·rw [if_pos c12] at H
         have c12b0 : decide (65536 ≤ (x6_2.size : Int)) = true := decide_eq_true c12
         have c12b1 : decide (65536 ≤ x6_2.size) = true := decide_eq_true yg
         clear c12
         obtain ⟨y359, hy359⟩ : ∃ y_ : List Int, y_ = (([(a0) % 256, 131, ((x6_2.size : Int) / 65536) % 256, ((x6_2.size : Int) / 256) % 256, ((x6_2.size : Int)) % 256] : List Int)) := ⟨_, rfl⟩
         replace H : (if (strOfNums y359).size + x6_2.size ≤ 9223372036854775807 then (some ((strOfNums y359) ++ x6_2, 0)) else (none)) = some (r1, r2) := by first | (rw [hy359]; with_reducible exact H) | (have H2_ := (Option.bind_some _ _).symm.trans H; rw [hy359]; with_reducible exact H2_) | (have H2_ := (Option.bind_some _ _).symm.trans H; with_reducible exact H2_) | with_reducible exact H | (rw [hy359]; exact H) | exact H
         have Ny359 := qb.mk hy359
         clear hy359
         by_cases c13 : (strOfNums y359).size + x6_2.size ≤ 9223372036854775807
         ·rw [if_pos c13] at H
          have c13b0 := eq_true c13
          have c13b1 : decide ((strOfNums y359).size + x6_2.size ≤ 9223372036854775807) = true := decide_eq_true c13
          try have c13b2 : (9223372036854775807 < (strOfNums y359).size + x6_2.size) = False := eq_false (Nat.not_lt.2 c13)
          simp only [Option.some.injEq, Prod.mk.injEq] at H
          obtain ⟨rfl, rfl⟩ := H
          go_wp2_with (first | ((with_reducible refine zm (N := 40) rfl ?_); refine Kd.jz (Kd.int .u8) _ 5 ?hg (N := 40) ?hd (xs := ([(a0) % 256, ((x6_2.size : Int)) % 256] : List Int)) (inner := [.int .u8 ((a0) % 256), .int .u8 (((x6_2.size : Int)) % 256)]) (ok := fun _ => True) (okp := fun _ => True) ?hr ?hp (fun _ hk => hk) trivial (Below.refl _ _) (Nat.le_refl _) uf ?_; (case hd => rfl); (case hg => rfl); (case hr => first | (go_simp; done) | (go_simp; rfl)); (case hp => exact (Reps.one (show Kd.M (Kd.int .u8) _ _ _ ((a0) % 256) [.int .u8 ((a0) % 256)] from rfl) (Reps.one (show Kd.M (Kd.int .u8) _ _ _ (((x6_2.size : Int)) % 256) [.int .u8 (((x6_2.size : Int)) % 256)] from rfl) (Reps.none _ _)))); intro v357 w14 ho15 hb hg_ hnew_; clear hg_ hnew_; (first | rw [← Ny356.out] at ho15 | (simp only [Int.reduceToNat] at ho15; rw [← Ny356.out] at ho15)); have n0_ := qb.mk (Kd.kn ho15 (qp cu)); have n1_ := qb.mk (qm cu hb); clear HB; have HO358 := n0_; have HB := n1_; clear n0_ n1_; clear hb ho15) | ((with_reducible refine zm (N := 54) rfl ?_); refine Kd.jz (Kd.int .u8) _ 5 ?hg (N := 54) ?hd (xs := ([(a0) % 256, 131, ((x6_2.size : Int) / 65536) % 256, ((x6_2.size : Int) / 256) % 256, ((x6_2.size : Int)) % 256] : List Int)) (inner := [.int .u8 ((a0) % 256), .int .u8 131, .int .u8 (((x6_2.size : Int) / 65536) % 256), .int .u8 (((x6_2.size : Int) / 256) % 256), .int .u8 (((x6_2.size : Int)) % 256)]) (ok := fun _ => True) (okp := fun _ => True) ?hr ?hp (fun _ hk => hk) trivial (Below.refl _ _) (Nat.le_refl _) uf ?_; (case hd => rfl); (case hg => rfl); (case hr => first | (go_simp; done) | (go_simp; rfl)); (case hp => exact (Reps.one (show Kd.M (Kd.int .u8) _ _ _ ((a0) % 256) [.int .u8 ((a0) % 256)] from rfl) (Reps.one (show Kd.M (Kd.int .u8) _ _ _ 131 [.int .u8 131] from rfl) (Reps.one (show Kd.M (Kd.int .u8) _ _ _ (((x6_2.size : Int) / 65536) % 256) [.int .u8 (((x6_2.size : Int) / 65536) % 256)] from rfl) (Reps.one (show Kd.M (Kd.int .u8) _ _ _ (((x6_2.size : Int) / 256) % 256) [.int .u8 (((x6_2.size : Int) / 256) % 256)] from rfl) (Reps.one (show Kd.M (Kd.int .u8) _ _ _ (((x6_2.size : Int)) % 256) [.int .u8 (((x6_2.size : Int)) % 256)] from rfl) (Reps.none _ _))))))); intro v360 w16 ho17 hb hg_ hnew_; clear hg_ hnew_; (first | rw [← Ny359.out] at ho17 | (simp only [Int.reduceToNat] at ho17; rw [← Ny359.out] at ho17)); have n0_ := qb.mk (Kd.k6 cao (Kd.je ho17) hb); have n1_ := qb.mk (Kd.kn (Kd.jm ho17 (Kd.R_lt cao)) (qp cu)); have n2_ := qb.mk (qm cu hb); clear HO358; clear HB; have HO358 := n0_; have HO361 := n1_; have HB := n2_; clear n0_ n1_ n2_; clear hb ho17; have hcv18 := jd (P := Tryz.prog) Tryz.underlying59 Tryz.underlying5 Tryz.underlying9 (Kd.jl HO361.out)))
          go_ret2
          exact ⟨by first | rfl | (simp [qt, qu] <;> rfl) | (simp [*, qt, qu] <;> rfl), by repeat (first | (with_reducible first | exact HB.out | apply qc | apply qa | apply qd) | exact HB.out)⟩
         ·rw [if_neg c13] at H
          exact absurd H uf
        ·rw [if_neg c12] at H
         have c12b0 : decide (65536 ≤ (x6_2.size : Int)) = false := decide_eq_false c12
         have c12b1 : decide (65536 ≤ x6_2.size) = false := decide_eq_false yg
         clear c12
         by_cases c19 : (x6_2.size : Int) ≥ 256
         ·rw [if_pos c19] at H
          have c19b0 : decide (256 ≤ (x6_2.size : Int)) = true := decide_eq_true c19
          have c19b1 : decide (256 ≤ x6_2.size) = true := decide_eq_true yg
          clear c19
          obtain ⟨y362, hy362⟩ : ∃ y_ : List Int, y_ = (([(a0) % 256, 130, ((x6_2.size : Int) / 256) % 256, ((x6_2.size : Int)) % 256] : List Int)) := ⟨_, rfl⟩
          replace H : (if (strOfNums y362).size + x6_2.size ≤ 9223372036854775807 then (some ((strOfNums y362) ++ x6_2, 0)) else (none)) = some (r1, r2) := by first | (rw [hy362]; with_reducible exact H) | (have H2_ := (Option.bind_some _ _).symm.trans H; rw [hy362]; with_reducible exact H2_) | (have H2_ := (Option.bind_some _ _).symm.trans H; with_reducible exact H2_) | with_reducible exact H | (rw [hy362]; exact H) | exact H
          have Ny362 := qb.mk hy362
          clear hy362
          by_cases c20 : (strOfNums y362).size + x6_2.size ≤ 9223372036854775807
          ·rw [if_pos c20] at H
           have c20b0 := eq_true c20
           have c20b1 : decide ((strOfNums y362).size + x6_2.size ≤ 9223372036854775807) = true := decide_eq_true c20
           try have c20b2 : (9223372036854775807 < (strOfNums y362).size + x6_2.size) = False := eq_false (Nat.not_lt.2 c20)
           simp only [Option.some.injEq, Prod.mk.injEq] at H
           obtain ⟨rfl, rfl⟩ := H
           go_wp2_with (first | ((with_reducible refine zm (N := 40) rfl ?_); refine Kd.jz (Kd.int .u8) _ 5 ?hg (N := 40) ?hd (xs := ([(a0) % 256, ((x6_2.size : Int)) % 256] : List Int)) (inner := [.int .u8 ((a0) % 256), .int .u8 (((x6_2.size : Int)) % 256)]) (ok := fun _ => True) (okp := fun _ => True) ?hr ?hp (fun _ hk => hk) trivial (Below.refl _ _) (Nat.le_refl _) uf ?_; (case hd => rfl); (case hg => rfl); (case hr => first | (go_simp; done) | (go_simp; rfl)); (case hp => exact (Reps.one (show Kd.M (Kd.int .u8) _ _ _ ((a0) % 256) [.int .u8 ((a0) % 256)] from rfl) (Reps.one (show Kd.M (Kd.int .u8) _ _ _ (((x6_2.size : Int)) % 256) [.int .u8 (((x6_2.size : Int)) % 256)] from rfl) (Reps.none _ _)))); intro v357 w21 ho22 hb hg_ hnew_; clear hg_ hnew_; (first | rw [← Ny356.out] at ho22 | (simp only [Int.reduceToNat] at ho22; rw [← Ny356.out] at ho22)); have n0_ := qb.mk (Kd.kn ho22 (qp cu)); have n1_ := qb.mk (qm cu hb); clear HB; have HO358 := n0_; have HB := n1_; clear n0_ n1_; clear hb ho22) | ((with_reducible refine zm (N := 65) rfl ?_); refine Kd.jz (Kd.int .u8) _ 5 ?hg (N := 65) ?hd (xs := ([(a0) % 256, 130, ((x6_2.size : Int) / 256) % 256, ((x6_2.size : Int)) % 256] : List Int)) (inner := [.int .u8 ((a0) % 256), .int .u8 130, .int .u8 (((x6_2.size : Int) / 256) % 256), .int .u8 (((x6_2.size : Int)) % 256)]) (ok := fun _ => True) (okp := fun _ => True) ?hr ?hp (fun _ hk => hk) trivial (Below.refl _ _) (Nat.le_refl _) uf ?_; (case hd => rfl); (case hg => rfl); (case hr => first | (go_simp; done) | (go_simp; rfl)); (case hp => exact (Reps.one (show Kd.M (Kd.int .u8) _ _ _ ((a0) % 256) [.int .u8 ((a0) % 256)] from rfl) (Reps.one (show Kd.M (Kd.int .u8) _ _ _ 130 [.int .u8 130] from rfl) (Reps.one (show Kd.M (Kd.int .u8) _ _ _ (((x6_2.size : Int) / 256) % 256) [.int .u8 (((x6_2.size : Int) / 256) % 256)] from rfl) (Reps.one (show Kd.M (Kd.int .u8) _ _ _ (((x6_2.size : Int)) % 256) [.int .u8 (((x6_2.size : Int)) % 256)] from rfl) (Reps.none _ _)))))); intro v363 w23 ho24 hb hg_ hnew_; clear hg_ hnew_; (first | rw [← Ny362.out] at ho24 | (simp only [Int.reduceToNat] at ho24; rw [← Ny362.out] at ho24)); have n0_ := qb.mk (Kd.k6 cao (Kd.je ho24) hb); have n1_ := qb.mk (Kd.kn (Kd.jm ho24 (Kd.R_lt cao)) (qp cu)); have n2_ := qb.mk (qm cu hb); clear HO358; clear HB; have HO358 := n0_; have HO364 := n1_; have HB := n2_; clear n0_ n1_ n2_; clear hb ho24; have hcv25 := jd (P := Tryz.prog) Tryz.underlying59 Tryz.underlying5 Tryz.underlying9 (Kd.jl HO364.out)))
           go_ret2
           exact ⟨by first | rfl | (simp [qt, qu] <;> rfl) | (simp [*, qt, qu] <;> rfl), by repeat (first | (with_reducible first | exact HB.out | apply qc | apply qa | apply qd) | exact HB.out)⟩
          ·rw [if_neg c20] at H
           exact absurd H uf
         ·rw [if_neg c19] at H
          have c19b0 : decide (256 ≤ (x6_2.size : Int)) = false := decide_eq_false c19
          have c19b1 : decide (256 ≤ x6_2.size) = false := decide_eq_false yg
          clear c19
          by_cases c26 : (x6_2.size : Int) ≥ 128
          ·rw [if_pos c26] at H
           have c26b0 : decide (128 ≤ (x6_2.size : Int)) = true := decide_eq_true c26
           have c26b1 : decide (128 ≤ x6_2.size) = true := decide_eq_true yg
           clear c26
           obtain ⟨y365, hy365⟩ : ∃ y_ : List Int, y_ = (([(a0) % 256, 129, ((x6_2.size : Int)) % 256] : List Int)) := ⟨_, rfl⟩
           replace H : (if (strOfNums y365).size + x6_2.size ≤ 9223372036854775807 then (some ((strOfNums y365) ++ x6_2, 0)) else (none)) = some (r1, r2) := by first | (rw [hy365]; with_reducible exact H) | (have H2_ := (Option.bind_some _ _).symm.trans H; rw [hy365]; with_reducible exact H2_) | (have H2_ := (Option.bind_some _ _).symm.trans H; with_reducible exact H2_) | with_reducible exact H | (rw [hy365]; exact H) | exact H
           have Ny365 := qb.mk hy365
           clear hy365
           by_cases c27 : (strOfNums y365).size + x6_2.size ≤ 9223372036854775807
           ·rw [if_pos c27] at H
            have c27b0 := eq_true c27
            have c27b1 : decide ((strOfNums y365).size + x6_2.size ≤ 9223372036854775807) = true := decide_eq_true c27
            try have c27b2 : (9223372036854775807 < (strOfNums y365).size + x6_2.size) = False := eq_false (Nat.not_lt.2 c27)
            simp only [Option.some.injEq, Prod.mk.injEq] at H
            obtain ⟨rfl, rfl⟩ := H
            go_wp2_with (first | ((with_reducible refine zm (N := 40) rfl ?_); refine Kd.jz (Kd.int .u8) _ 5 ?hg (N := 40) ?hd (xs := ([(a0) % 256, ((x6_2.size : Int)) % 256] : List Int)) (inner := [.int .u8 ((a0) % 256), .int .u8 (((x6_2.size : Int)) % 256)]) (ok := fun _ => True) (okp := fun _ => True) ?hr ?hp (fun _ hk => hk) trivial (Below.refl _ _) (Nat.le_refl _) uf ?_; (case hd => rfl); (case hg => rfl); (case hr => first | (go_simp; done) | (go_simp; rfl)); (case hp => exact (Reps.one (show Kd.M (Kd.int .u8) _ _ _ ((a0) % 256) [.int .u8 ((a0) % 256)] from rfl) (Reps.one (show Kd.M (Kd.int .u8) _ _ _ (((x6_2.size : Int)) % 256) [.int .u8 (((x6_2.size : Int)) % 256)] from rfl) (Reps.none _ _)))); intro v357 w28 ho29 hb hg_ hnew_; clear hg_ hnew_; (first | rw [← Ny356.out] at ho29 | (simp only [Int.reduceToNat] at ho29; rw [← Ny356.out] at ho29)); have n0_ := qb.mk (Kd.kn ho29 (qp cu)); have n1_ := qb.mk (qm cu hb); clear HB; have HO358 := n0_; have HB := n1_; clear n0_ n1_; clear hb ho29) | ((with_reducible refine zm (N := 73) rfl ?_); refine Kd.jz (Kd.int .u8) _ 5 ?hg (N := 73) ?hd (xs := ([(a0) % 256, 129, ((x6_2.size : Int)) % 256] : List Int)) (inner := [.int .u8 ((a0) % 256), .int .u8 129, .int .u8 (((x6_2.size : Int)) % 256)]) (ok := fun _ => True) (okp := fun _ => True) ?hr ?hp (fun _ hk => hk) trivial (Below.refl _ _) (Nat.le_refl _) uf ?_; (case hd => rfl); (case hg => rfl); (case hr => first | (go_simp; done) | (go_simp; rfl)); (case hp => exact (Reps.one (show Kd.M (Kd.int .u8) _ _ _ ((a0) % 256) [.int .u8 ((a0) % 256)] from rfl) (Reps.one (show Kd.M (Kd.int .u8) _ _ _ 129 [.int .u8 129] from rfl) (Reps.one (show Kd.M (Kd.int .u8) _ _ _ (((x6_2.size : Int)) % 256) [.int .u8 (((x6_2.size : Int)) % 256)] from rfl) (Reps.none _ _))))); intro v366 w30 ho31 hb hg_ hnew_; clear hg_ hnew_; (first | rw [← Ny365.out] at ho31 | (simp only [Int.reduceToNat] at ho31; rw [← Ny365.out] at ho31)); have n0_ := qb.mk (Kd.k6 cao (Kd.je ho31) hb); have n1_ := qb.mk (Kd.kn (Kd.jm ho31 (Kd.R_lt cao)) (qp cu)); have n2_ := qb.mk (qm cu hb); clear HO358; clear HB; have HO358 := n0_; have HO367 := n1_; have HB := n2_; clear n0_ n1_ n2_; clear hb ho31; have hcv32 := jd (P := Tryz.prog) Tryz.underlying59 Tryz.underlying5 Tryz.underlying9 (Kd.jl HO367.out)))
            go_ret2
            exact ⟨by first | rfl | (simp [qt, qu] <;> rfl) | (simp [*, qt, qu] <;> rfl), by repeat (first | (with_reducible first | exact HB.out | apply qc | apply qa | apply qd) | exact HB.out)⟩
           ·rw [if_neg c27] at H
            exact absurd H uf
          ·rw [if_neg c26] at H
           have c26b0 : decide (128 ≤ (x6_2.size : Int)) = false := decide_eq_false c26
           have c26b1 : decide (128 ≤ x6_2.size) = false := decide_eq_false yg
           clear c26
           by_cases c33 : (strOfNums y356).size + x6_2.size ≤ 9223372036854775807
           ·rw [if_pos c33] at H
            have c33b0 := eq_true c33
            have c33b1 : decide ((strOfNums y356).size + x6_2.size ≤ 9223372036854775807) = true := decide_eq_true c33
            try have c33b2 : (9223372036854775807 < (strOfNums y356).size + x6_2.size) = False := eq_false (Nat.not_lt.2 c33)
            simp only [Option.some.injEq, Prod.mk.injEq] at H
            obtain ⟨rfl, rfl⟩ := H
            go_wp2_with (first | ((with_reducible refine zm (N := 40) rfl ?_); refine Kd.jz (Kd.int .u8) _ 5 ?hg (N := 40) ?hd (xs := ([(a0) % 256, ((x6_2.size : Int)) % 256] : List Int)) (inner := [.int .u8 ((a0) % 256), .int .u8 (((x6_2.size : Int)) % 256)]) (ok := fun _ => True) (okp := fun _ => True) ?hr ?hp (fun _ hk => hk) trivial (Below.refl _ _) (Nat.le_refl _) uf ?_; (case hd => rfl); (case hg => rfl); (case hr => first | (go_simp; done) | (go_simp; rfl)); (case hp => exact (Reps.one (show Kd.M (Kd.int .u8) _ _ _ ((a0) % 256) [.int .u8 ((a0) % 256)] from rfl) (Reps.one (show Kd.M (Kd.int .u8) _ _ _ (((x6_2.size : Int)) % 256) [.int .u8 (((x6_2.size : Int)) % 256)] from rfl) (Reps.none _ _)))); intro v357 w34 ho35 hb hg_ hnew_; clear hg_ hnew_; (first | rw [← Ny356.out] at ho35 | (simp only [Int.reduceToNat] at ho35; rw [← Ny356.out] at ho35)); have n0_ := qb.mk (Kd.kn ho35 (qp cu)); have n1_ := qb.mk (qm cu hb); clear HB; have HO358 := n0_; have HB := n1_; clear n0_ n1_; clear hb ho35; have hcv36 := jd (P := Tryz.prog) Tryz.underlying59 Tryz.underlying5 Tryz.underlying9 (Kd.jl HO358.out)))
            go_ret2
            exact ⟨by first | rfl | (simp [qt, qu] <;> rfl) | (simp [*, qt, qu] <;> rfl), by repeat (first | (with_reducible first | exact HB.out | apply qc | apply qa | apply qd) | exact HB.out)⟩
           ·rw [if_neg c33] at H
            exact absurd H uf
def zj.f (k : Nat) (a0 : Int) (l1 : List ByteArray) : Option (ByteArray) := (zh.f k a0 l1).bind fun bt368 => (some bt368.1)
theorem zj.mono : ∀ a0 a1 k, LeO (zj.f k a0 a1) (zj.f (k + 1) a0 a1) := by
 intro a0 a1 k
 unfold zj.f
 repeat' first
   | (with_reducible exact zh.mono _ _ _)
   | (with_reducible exact LeO.refl _)
   | (with_reducible exact LeO.none _)
   | (with_reducible refine LeO.ite ?_ ?_)
   | (with_reducible refine LeO.bind ?_ (fun _ => ?_))
set_option maxHeartbeats 8000000 in
set_option maxRecDepth 100000 in
theorem zj.calls (k : Nat) (a0 : Int) (A1 : Option Addr) (c1 : Nat) (l1 : List ByteArray) (r : ByteArray) (w : World) (hr1 : Kd.C Kd.string w A1 l1.length l1) (hc1 : l1.length ≤ c1) (h : zj.f k a0 l1 = some r) :
  Calls Tryz.prog 31 #[.int .i64 a0, .slice A1 l1.length c1] w fun e w' => e = .returned (.string r) ∧ Below w.heap.size w w' := by
 have HR1 := qb.mk hr1
 have HC1 := qb.mk hc1
 clear hr1 hc1
 have HB := qb.mk (Below.refl w.heap.size w)
 have H : ((zh.f k a0 l1).bind fun bt368 => (some bt368.1)) = some r := h
 clear h
 replace H := Option.bind_eq_some_iff.mp H
 obtain ⟨⟨t368, t369⟩, A30, H⟩ := H
 replace H : (some t368) = some r := H
 have A3 := qb.mk A30
 clear A30
 obtain rfl := Option.some.inj H
 go_enter Tryz.func31, Tryz.ntmps31
 go_wp2_with (first | ((with_reducible refine zl (f := 64) rfl ?_); refine xk (some 10) rfl rfl Tryz.func64 yh rfl #[.int .i64 a0, .slice A1 l1.length c1] rfl cz ?_; (with_reducible refine (zh.calls k a0 _ _ l1 t368 t369 _ ?side1 ?side2 A3.out).mono ?_); (case side1 => repeat (first | exact HR1.out | (with_reducible refine Kd.xr ?_ _) | (with_reducible refine Kd.xt ?_ _) | (with_reducible refine Kd.kp ?_))); (case side2 => exact HC1.out); rintro e w4 ⟨rfl, hb⟩; refine ⟨_, rfl, ?_⟩; have n0_ := qb.mk (qm cu hb); clear HB; have HB := n0_; clear n0_; (try clear hb); (try clear hb2); (try clear hk); (try clear hi)))
 go_ret
 exact ⟨by first | rfl | (simp [qt, qu] <;> rfl) | (simp [*, qt, qu] <;> rfl), by repeat (first | (with_reducible first | exact HB.out | apply qc | apply qa | apply qd) | exact HB.out)⟩
end Go.Proofs.YthdoohfdminfgaaGreatDoor.C
end
