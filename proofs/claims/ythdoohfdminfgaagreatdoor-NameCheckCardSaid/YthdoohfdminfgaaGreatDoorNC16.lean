/- Words, walks and plain laws that the claim rests on, gathered. -/
import Derived.Below
import Derived.Deep.Draws
import Derived.Deep.AppendLies
import Derived.Maps.AppendAt
import Derived.OwnWalk
import Derived.Laws.BytesArg
import Derived.Laws.MakeOwn
import Derived.Laws.OwnMore
import Derived.Deep.OwnRows
import Derived.Tactics
import Derived.Lib.ConvBytes
import Derived.Laws.Slices
import Derived.WalkKit
import Derived.KernelRfl
import Derived.RowKit3
import Derived.Deep.LoopGhost
import Derived.Deep.QuietTactic
import Derived.BigQuiet
import Derived.WideLaws
import Derived.Deep.DeepCutAuto
import Derived.Deep.CutBlock
import Derived.Deep.RegionHeld3
import Derived.Laws.Rows
import Derived.Lib.AppendStr
import Derived.ArgAppend
import Derived.Laws.IdiomCopy
import Derived.RowKit
import Derived.Shelf.Strings.Builder1
import Derived.Shelf.Strings.Builder2
import Derived.Shelf.Strings.OnBuilder
import Derived.Shelf.Small.Bits
import Derived.Shelf.Small.Strs
import Derived.Shelf.Strconv.Itoa0
import Derived.Shelf.Strings.Search1
import Derived.Shelf.Strings.Search2
import Derived.Shelf.Strings.Search3
import Derived.Shelf.Strings.Cut
import Derived.Shelf.Strings.Count
import Derived.Shelf.LaysM
import Derived.Shelf.Strings.Shaped
import Derived.Shelf.Sort.Plain
import Derived.Shelf.Strings.Prefix
import Derived.Shelf.Strings.Split
import Derived.Shelf.Strings.SplitShaped
import Derived.Shelf.Unicode.DecodeSlow
import Derived.Shelf.Slices.In.SortNone
import Derived.Shelf.Slices.In.SortNone2
import Derived.Test.YthdoohfdminfgaaGreatDoorProg
import Derived.WalkSpells
import Derived.OrdersHeld
import Derived.Laws.BitsLemmas
import Derived.WalkLawsBesides
import Derived.Laws.StructEq
import Derived.Lib.SplitLaws
import Derived.Test.YthdoohfdminfgaaGreatDoorNC0
import Derived.Test.YthdoohfdminfgaaGreatDoorNC1
import Derived.Test.YthdoohfdminfgaaGreatDoorNC2
import Derived.Test.YthdoohfdminfgaaGreatDoorNC3
import Derived.Test.YthdoohfdminfgaaGreatDoorNC4
import Derived.Test.YthdoohfdminfgaaGreatDoorNC5
import Derived.Test.YthdoohfdminfgaaGreatDoorNC6
import Derived.Test.YthdoohfdminfgaaGreatDoorNC7
import Derived.Test.YthdoohfdminfgaaGreatDoorNC8
import Derived.Test.YthdoohfdminfgaaGreatDoorNC9
import Derived.Test.YthdoohfdminfgaaGreatDoorNC10
import Derived.Test.YthdoohfdminfgaaGreatDoorNC11
import Derived.Test.YthdoohfdminfgaaGreatDoorNC12
import Derived.Test.YthdoohfdminfgaaGreatDoorNC13
import Derived.Test.YthdoohfdminfgaaGreatDoorNC14
import Derived.Test.YthdoohfdminfgaaGreatDoorNC15
import Derived.Test.YthdoohfdminfgaaGreatDoorNCc
namespace Go.Proofs.YthdoohfdminfgaaGreatDoorW.PrintLast
end Go.Proofs.YthdoohfdminfgaaGreatDoorW.PrintLast
namespace Go.Proofs.YthdoohfdminfgaaGreatDoorW.PrintMore
end Go.Proofs.YthdoohfdminfgaaGreatDoorW.PrintMore
namespace Go.Proofs.YthdoohfdminfgaaGreatDoorW.PrintWords
end Go.Proofs.YthdoohfdminfgaaGreatDoorW.PrintWords
section
namespace Go.Proofs.YthdoohfdminfgaaGreatDoor.C
open Go.RowKit Go.Proofs.YthdoohfdminfgaaGreatDoorW.PrintWords Go.Proofs.YthdoohfdminfgaaGreatDoorW.PrintLast Go.Proofs.YthdoohfdminfgaaGreatDoorW.PrintMore
attribute [local go_sem] kc xy kr ks xh xg xz xx
set_option linter.unusedVariables false
set_option linter.unusedSimpArgs false
def q9.l0 : Nat → List ByteArray → List (S40) → Int → Int → Option (List ByteArray)
 | 0, _, _, _, _ => none
 | k + 1, x3, x6, x7, x8 => if x8 < x7 then (if 0 ≤ x8 then (if x8 < (x6.length : Int) then ((km.f k ((qk x6 x8).f0)).bind fun t406 => ((zj.f k ((qk x6 x8).f1) (([(qk x6 x8).f2] : List ByteArray))).bind fun t410 => ((zj.f k 48 (([t406, t410] : List ByteArray))).bind fun t414 => (if x3.length < 8796093022208 then (q9.l0 k (x3 ++ [t414]) x6 x7 (wrap64 (x8 + 1))) else (none))))) else (none)) else (none)) else (some x3)
def q9.f (k : Nat) (l0 : List (S40)) : Option (List ByteArray) := q9.l0 k ([] : List ByteArray) l0 (l0.length : Int) 0
theorem q9.xl : ∀ k, (∀ y0 y1 y2 y3, LeO (q9.l0 k y0 y1 y2 y3) (q9.l0 (k + 1) y0 y1 y2 y3))
 | 0 => fun _ _ _ _ r h => by simp [q9.l0] at h
 | k + 1 => by
  have ih0 := q9.xl k
  ·intro y0 y1 y2 y3
   unfold q9.l0
   repeat' first
   | (with_reducible exact ih0 _ _ _ _)
   | (with_reducible exact km.mono _ _)
   | (with_reducible exact zj.mono _ _ _)
   | (with_reducible exact LeO.refl _)
   | (with_reducible exact LeO.none _)
   | (with_reducible refine LeO.ite ?_ ?_)
   | (with_reducible refine LeO.bind ?_ (fun _ => ?_))
theorem q9.mono : ∀ a0 k, LeO (q9.f k a0) (q9.f (k + 1) a0) := by
 intro a0 k
 have ih0 := q9.xl k
 unfold q9.f
 repeat' first
   | (with_reducible exact ih0 _ _ _ _)
   | (with_reducible exact km.mono _ _)
   | (with_reducible exact zj.mono _ _ _)
   | (with_reducible exact LeO.refl _)
   | (with_reducible exact LeO.none _)
   | (with_reducible refine LeO.ite ?_ ?_)
   | (with_reducible refine LeO.bind ?_ (fun _ => ?_))
def q9.T5 : Bool × List (List Nat × List Nat) := (true, [([], []), ([], []), ([1], [1]), ([2], [2]), ([], []), ([4], [4]), ([], []), ([6], [6]), ([7], [7]), ([5, 8, 3], [5, 8]), ([3, 9], [3, 9]), ([10, 9], [10]), ([11], [11]), ([0, 12, 11], [0, 12]), ([13, 13, 0, 1, 2, 3, 4, 5, 6, 7, 8, 9, 10, 11, 12, 13], [0, 13])])
def q9.B5 : List Nat := [0, 0, 2, 6, 0, 16, 0, 64, 192, 510, 1022, 2046, 4094, 8191, 16383]
theorem q9.tab5 : rtab .any (opsOf Tryz.f33 5) = q9.T5 := by kernel_rfl
theorem q9.bits5 : waitsOk q9.T5.2 q9.B5 = true := by kernel_rfl
set_option maxHeartbeats 8000000 in
set_option maxRecDepth 100000 in
theorem q9.calls (k : Nat) (A0 : Option Addr) (c0 : Nat) (l0 : List (S40)) (r : List ByteArray) (w : World) (hr0 : Kd.C k40 w A0 l0.length l0) (hc0 : l0.length ≤ c0) (h : q9.f k l0 = some r) :
  Calls Tryz.prog 33 #[.slice A0 l0.length c0] w fun e w' => ∃ v0_ : Value, e = .returned (v0_) ∧ Kd.R Kd.string 9 w' w.heap.size (fun _ => True) v0_ r ∧ Below w.heap.size w w' := by
 have hu40 := Tryz.underlying40
 have HR0 := qb.mk hr0
 have HC0 := qb.mk hc0
 clear hr0 hc0
 have HB := qb.mk (Below.refl w.heap.size w)
 have H : (q9.l0 k ([] : List ByteArray) l0 (l0.length : Int) 0) = some r := h
 clear h
 have H' := qb.mk H
 clear H
 go_enter Tryz.func33, Tryz.ntmps33
 go_wp2
 go_loopg [3, 8] k (fun kq v3 v8 w' => ∃ (x3_1 : List ByteArray) (x8_1 : Int), v8 = .int .i64 x8_1 ∧ qb (q9.l0 kq x3_1 l0 (l0.length : Int) x8_1 = some r) ∧ qb (kq ≤ k) ∧ qb (Kd.R Kd.string 9 w' w.heap.size (fun _ => True) v3 x3_1) ∧ qb (Below w.heap.size w w'))
 case atStart => exact ⟨(([] : List ByteArray)), (0), yf, H', ⟨Nat.le_refl _⟩, ⟨by first | exact Kd.jx _ _ _ _ _ | exact Kd.N_nil _ _ _ _ _ | exact Kd.V_nil _ _ _ _ _ | exact Kd.Q_nil _ _ _ _ _ | exact Kd.S_nil _ _ _ _ _⟩, ⟨by repeat (first | (with_reducible first | exact HB.out | apply qc | apply qa | apply qd) | exact HB.out)⟩⟩
 case round =>
  clear H'
  obtain ⟨x3_1, x8_1, rfl, HA, HK1, HO_3, HB⟩ := hrel
  cases gk with
  | zero => exact absurd HA.out (by simp [q9.l0])
  | succ k1 =>
   have H := HA.out
   clear HA
   simp only [q9.l0] at H
   by_cases c2 : x8_1 < (l0.length : Int)
   ·rw [if_pos c2] at H
    have c2b0 : decide (x8_1 < (l0.length : Int)) = true := decide_eq_true c2
    clear c2
    by_cases c3 : 0 ≤ x8_1
    ·rw [if_pos c3] at H
     have c3b0 : decide (0 ≤ x8_1) = true := decide_eq_true c3
     clear c3
     by_cases c4 : x8_1 < (l0.length : Int)
     ·rw [if_pos c4] at H
      have c4b0 : decide (x8_1 < (l0.length : Int)) = true := decide_eq_true c4
      clear c4
      replace H := Option.bind_eq_some_iff.mp H
      obtain ⟨t406, A50, H⟩ := H
      replace H : ((zj.f k1 ((qk l0 x8_1).f1) (([(qk l0 x8_1).f2] : List ByteArray))).bind fun t410 => ((zj.f k1 48 (([t406, t410] : List ByteArray))).bind fun t414 => (if x3_1.length < 8796093022208 then (q9.l0 k1 (x3_1 ++ [t414]) l0 (l0.length : Int) (wrap64 (x8_1 + 1))) else (none)))) = some r := H
      have A5 := qb.mk A50
      clear A50
      obtain ⟨y407, hy407⟩ : ∃ y_ : List ByteArray, y_ = (([(qk l0 x8_1).f2] : List ByteArray)) := ⟨_, rfl⟩
      replace H : ((zj.f k1 ((qk l0 x8_1).f1) y407).bind fun t410 => ((zj.f k1 48 (([t406, t410] : List ByteArray))).bind fun t414 => (if x3_1.length < 8796093022208 then (q9.l0 k1 (x3_1 ++ [t414]) l0 (l0.length : Int) (wrap64 (x8_1 + 1))) else (none)))) = some r := by first | (rw [hy407]; with_reducible exact H) | (have H2_ := (Option.bind_some _ _).symm.trans H; rw [hy407]; with_reducible exact H2_) | (have H2_ := (Option.bind_some _ _).symm.trans H; with_reducible exact H2_) | with_reducible exact H | (rw [hy407]; exact H) | exact H
      have Ny407 := qb.mk hy407
      clear hy407
      replace H := Option.bind_eq_some_iff.mp H
      obtain ⟨t410, A60, H⟩ := H
      replace H : ((zj.f k1 48 (([t406, t410] : List ByteArray))).bind fun t414 => (if x3_1.length < 8796093022208 then (q9.l0 k1 (x3_1 ++ [t414]) l0 (l0.length : Int) (wrap64 (x8_1 + 1))) else (none))) = some r := H
      have A6 := qb.mk A60
      clear A60
      obtain ⟨y411, hy411⟩ : ∃ y_ : List ByteArray, y_ = (([t406, t410] : List ByteArray)) := ⟨_, rfl⟩
      replace H : ((zj.f k1 48 y411).bind fun t414 => (if x3_1.length < 8796093022208 then (q9.l0 k1 (x3_1 ++ [t414]) l0 (l0.length : Int) (wrap64 (x8_1 + 1))) else (none))) = some r := by first | (rw [hy411]; with_reducible exact H) | (have H2_ := (Option.bind_some _ _).symm.trans H; rw [hy411]; with_reducible exact H2_) | (have H2_ := (Option.bind_some _ _).symm.trans H; with_reducible exact H2_) | with_reducible exact H | (rw [hy411]; exact H) | exact H
      have Ny411 := qb.mk hy411
      clear hy411
      replace H := Option.bind_eq_some_iff.mp H
      obtain ⟨t414, A70, H⟩ := H
      replace H : (if x3_1.length < 8796093022208 then (q9.l0 k1 (x3_1 ++ [t414]) l0 (l0.length : Int) (wrap64 (x8_1 + 1))) else (none)) = some r := H
      have A7 := qb.mk A70
      clear A70
      by_cases c8 : x3_1.length < 8796093022208
      ·rw [if_pos c8] at H
       have LMc8 := qb.mk c8
       clear c8
       obtain ⟨y415, hy415⟩ : ∃ y_ : List ByteArray, y_ = (x3_1 ++ [t414]) := ⟨_, rfl⟩
       replace H : (q9.l0 k1 y415 l0 (l0.length : Int) (wrap64 (x8_1 + 1))) = some r := by first | (rw [hy415]; with_reducible exact H) | (have H2_ := (Option.bind_some _ _).symm.trans H; rw [hy415]; with_reducible exact H2_) | (have H2_ := (Option.bind_some _ _).symm.trans H; with_reducible exact H2_) | with_reducible exact H | (rw [hy415]; exact H) | exact H
       have Ny415 := qb.mk hy415
       clear hy415
       have H' := qb.mk H
       clear H
       have p404 : 0 ≤ (x8_1 : Int) := of_decide_eq_true yc
       have q404 : x8_1 < (l0.length : Int) := of_decide_eq_true yc
       obtain ⟨ad404, e404, hx404_0, hx404_1, hx404_2⟩ := js HR0.out x8_1 p404 q404
       cases e404
       replace hx404_0 := (HB.out.cell (World.block_lt_of_cell? w _ hx404_0)).trans hx404_0
       replace hx404_1 := (HB.out.cell (World.block_lt_of_cell? w _ hx404_1)).trans hx404_1
       replace hx404_2 := (HB.out.cell (World.block_lt_of_cell? w _ hx404_2)).trans hx404_2
       replace p404 := eq_true p404
       replace q404 := eq_true q404
       try go_wp2_with (first | ((with_reducible refine zm (N := 5) rfl ?_); refine zx ?hg (N := 5) ?hd (cs := #[.string (⟨#[]⟩ : ByteArray), .int .i64 0, .string (⟨#[]⟩ : ByteArray)]) (t := 40) ?hr ?_; (case hd => rfl); (case hg => rfl); (case hr => first | (go_simp; done) | (go_simp; rfl)); intro gb405 hg w9 hbox hb; have n0_ := qb.mk (Kd.z8 ug hb); have n1_ := qb.mk (qm cu hb); have n2_ := qb.mk (hbox); have n3_ := qb.mk ((by rw [hg]; exact (qp cu) : w.heap.size ≤ gb405)); have n4_ := qb.mk ((by rw [hg]; exact (qp cu) : w.heap.size ≤ gb405)); clear HO_3; clear HB; have HO_3 := n0_; have HB := n1_; have BK405 := n2_; have GW405 := n3_; have GE405 := n4_; clear n0_ n1_ n2_ n3_ n4_; clear hb hbox hg; have hcz10_0 : w9.cell? ⟨gb405, 0, none⟩ = some (.string (⟨#[]⟩ : ByteArray)) := (qo BK405.out 0).trans rfl; have hcz10_1 : w9.cell? ⟨gb405, 1, none⟩ = some (.int .i64 0) := (qo BK405.out 1).trans rfl; have hcz10_2 : w9.cell? ⟨gb405, 2, none⟩ = some (.string (⟨#[]⟩ : ByteArray)) := (qo BK405.out 2).trans rfl; have hfz10_0 := qr BK405.out 0; have hfz10_1 := qr BK405.out 1; have hfz10_2 := qr BK405.out 2; obtain ⟨Ao11, co11, eo11⟩ := Kd.xo HO_3.out; subst eo11))
       have n0_ : qb (Kd.R Kd.string 9 (((w9.setCell ⟨gb405, 0, none⟩ (.string ((qk l0 x8_1).f0))).setCell ⟨gb405, 1, none⟩ (.int .i64 ((qk l0 x8_1).f1))).setCell ⟨gb405, 2, none⟩ (.string ((qk l0 x8_1).f2))) w.heap.size (fun _ => True) (.slice Ao11 x3_1.length co11) x3_1) := ⟨by (with_reducible repeat (first | apply Kd.qw | apply Kd.qv | apply Kd.qz)); exact Kd.xn (Kd.jq (p := ⟨gb405, 2, none⟩) (Kd.jq (p := ⟨gb405, 1, none⟩) (Kd.jq (p := ⟨gb405, 0, none⟩) (Kd.R_types HO_3.out BK405.out (by decide)) (fun _ hk => hk.2) (.string ((qk l0 x8_1).f0))) (fun _ hk => hk.2) (.int .i64 ((qk l0 x8_1).f1))) (fun _ hk => hk.2) (.string ((qk l0 x8_1).f2))) (fun _ hk => trivial)⟩
       have n1_ : qb ((((w9.setCell ⟨gb405, 0, none⟩ (.string ((qk l0 x8_1).f0))).setCell ⟨gb405, 1, none⟩ (.int .i64 ((qk l0 x8_1).f1))).setCell ⟨gb405, 2, none⟩ (.string ((qk l0 x8_1).f2))).heap[gb405]? = some (.cells #[.string ((qk l0 x8_1).f0), .int .i64 ((qk l0 x8_1).f1), .string ((qk l0 x8_1).f2)] 40 (0, 0))) := ⟨by (with_reducible repeat (first | refine qg ?_ _ | refine qh ?_ | refine qf ?_ _)); refine z6 (cs := #[.string ((qk l0 x8_1).f0), .int .i64 ((qk l0 x8_1).f1), .string (⟨#[]⟩ : ByteArray)]) ?_ 2 _ rfl; (with_reducible repeat (first | refine qg ?_ _ | refine qh ?_ | refine qf ?_ _)); refine z6 (cs := #[.string ((qk l0 x8_1).f0), .int .i64 0, .string (⟨#[]⟩ : ByteArray)]) ?_ 1 _ rfl; (with_reducible repeat (first | refine qg ?_ _ | refine qh ?_ | refine qf ?_ _)); refine z6 (cs := #[.string (⟨#[]⟩ : ByteArray), .int .i64 0, .string (⟨#[]⟩ : ByteArray)]) ?_ 0 _ rfl; (with_reducible repeat (first | refine qg ?_ _ | refine qh ?_ | refine qf ?_ _)); exact BK405.out⟩
       have n2_ : qb (Below w.heap.size w (((w9.setCell ⟨gb405, 0, none⟩ (.string ((qk l0 x8_1).f0))).setCell ⟨gb405, 1, none⟩ (.int .i64 ((qk l0 x8_1).f1))).setCell ⟨gb405, 2, none⟩ (.string ((qk l0 x8_1).f2)))) := ⟨by repeat (first | (with_reducible first | exact HB.out | apply qc | apply qa | apply qd | refine qe ?_ GE405.out) | exact HB.out)⟩
       (try clear HO_3)
       (try clear BK405)
       (try clear HB)
       generalize (((w9.setCell ⟨gb405, 0, none⟩ (.string ((qk l0 x8_1).f0))).setCell ⟨gb405, 1, none⟩ (.int .i64 ((qk l0 x8_1).f1))).setCell ⟨gb405, 2, none⟩ (.string ((qk l0 x8_1).f2))) = w12 at n0_ n1_ n2_ ⊢
       have HO_3 := n0_
       have BK405 := n1_
       have HB := n2_
       clear n0_ n1_ n2_
       have n0_ := qb.mk (Kd.qz HO_3.out)
       have n1_ := qb.mk (qh BK405.out)
       have n2_ := qb.mk (qd HB.out)
       clear HO_3
       clear BK405
       clear HB
       have HO_3 := n0_
       have BK405 := n1_
       have HB := n2_
       clear n0_ n1_ n2_
       refine start_ (n := 15) (S := fun w' => w'.cell? ⟨gb405, 0, none⟩ = some (.string ((qk l0 x8_1).f0)) ∧ w'.cell? ⟨gb405, 1, none⟩ = some (.int .i64 ((qk l0 x8_1).f1)) ∧ w'.cell? ⟨gb405, 2, none⟩ = some (.string ((qk l0 x8_1).f2))) (ds := []) #[false, false, false, false, false, false, false, false, false, false, false, false, false, false, false] yh rfl rfl ⟨(qo BK405.out 0).trans rfl, (qo BK405.out 1).trans rfl, (qo BK405.out 2).trans rfl⟩ (fun hHeld => ?_); refine with_tabW q9.tab5 q9.bits5 (fun HT_ HW_ => ?_)
       generalize w12.drew = w13 at HO_3 BK405 HB hHeld ⊢
       refine xq (i := 0) (N := some 12) (v := ?_) (a' := ?_) #[true, false, false, false, false, false, false, false, false, false, false, false, false, false, false] rfl rfl (xj HT_.out yh) (fun _ _ _ h => h) (Or.inl ⟨by rfl, ?_⟩) ?_ ?_
       rotate_left
       ·intro w'
        go_simp
        with_reducible rfl
       rotate_left
       ·simp only [Act.put, List.setIfInBounds_toArray, List.set_cons_zero, List.set_cons_succ, zo, zr]
        rfl
       refine xq (i := 1) (N := some 13) (v := ?_) (a' := ?_) #[true, true, false, false, false, false, false, false, false, false, false, false, false, false, false] rfl rfl (xj HT_.out yh) (fun _ _ _ h => h) (Or.inl ⟨by rfl, ?_⟩) ?_ ?_
       rotate_left
       ·intro w'
        go_simp
        with_reducible rfl
       rotate_left
       ·simp only [Act.put, List.setIfInBounds_toArray, List.set_cons_zero, List.set_cons_succ, zo, zr]
        rfl
       refine xq (i := 4) (N := some 16) (v := ?_) (a' := ?_) #[true, true, false, false, true, false, false, false, false, false, false, false, false, false, false] rfl rfl (xj HT_.out yh) (fun _ _ _ h => h) (Or.inl ⟨by rfl, ?_⟩) ?_ ?_
       rotate_left
       ·intro w'
        go_simp
        with_reducible rfl
       rotate_left
       ·simp only [Act.put, List.setIfInBounds_toArray, List.set_cons_zero, List.set_cons_succ, zo, zr]
        rfl
       refine xq (i := 6) (N := some 18) (v := ?_) (a' := ?_) #[true, true, false, false, true, false, true, false, false, false, false, false, false, false, false] rfl rfl (xj HT_.out yh) (fun _ _ _ h => h) (Or.inl ⟨by rfl, ?_⟩) ?_ ?_
       rotate_left
       ·intro w'
        go_simp
        with_reducible rfl
       rotate_left
       ·simp only [Act.put, List.setIfInBounds_toArray, List.set_cons_zero, List.set_cons_succ, zo, zr]
        rfl
       refine take_ (i := 2) (N := some 14) (v := ?_) (a' := ?_) #[true, true, true, false, true, false, true, false, false, false, false, false, false, false, false] rfl rfl (jb HT_.out HW_.out yh) (fun _ _ _ h => h) (Or.inl ⟨by rfl, ?_⟩) hHeld ?_ ?_
       rotate_left
       ·rintro w' ⟨s0, s1, s2⟩
        go_simp
        with_reducible rfl
       rotate_left
       ·simp only [Act.put, List.setIfInBounds_toArray, List.set_cons_zero, List.set_cons_succ, zo, zr]
        rfl
       refine take_ (i := 5) (N := some 17) (v := ?_) (a' := ?_) #[true, true, true, false, true, true, true, false, false, false, false, false, false, false, false] rfl rfl (jb HT_.out HW_.out yh) (fun _ _ _ h => h) (Or.inl ⟨by rfl, ?_⟩) hHeld ?_ ?_
       rotate_left
       ·rintro w' ⟨s0, s1, s2⟩
        go_simp
        with_reducible rfl
       rotate_left
       ·simp only [Act.put, List.setIfInBounds_toArray, List.set_cons_zero, List.set_cons_succ, zo, zr]
        rfl
       refine take_ (i := 7) (N := some 19) (v := ?_) (a' := ?_) #[true, true, true, false, true, true, true, true, false, false, false, false, false, false, false] rfl rfl (jb HT_.out HW_.out yh) (fun _ _ _ h => h) (Or.inl ⟨by rfl, ?_⟩) hHeld ?_ ?_
       rotate_left
       ·rintro w' ⟨s0, s1, s2⟩
        go_simp
        with_reducible rfl
       rotate_left
       ·simp only [Act.put, List.setIfInBounds_toArray, List.set_cons_zero, List.set_cons_succ, zo, zr]
        rfl
       refine join_ (σ := Value) 6 #[true, true, true, true, true, true, true, true, true, false, false, false, false, false, false] (fun s_ => [(15, .string t406), (20, s_)]) (fun s_ w' => (w'.cell? ⟨gb405, 0, none⟩ = some (.string ((qk l0 x8_1).f0)) ∧ w'.cell? ⟨gb405, 1, none⟩ = some (.int .i64 ((qk l0 x8_1).f1)) ∧ w'.cell? ⟨gb405, 2, none⟩ = some (.string ((qk l0 x8_1).f2))) ∧ (Kd.R Kd.string 9 w' w.heap.size (fun k_ => some k_ ≠ (.slice Ao11 x3_1.length co11 : Value).ownBlock) s_ y407) ∧ (Kd.R Kd.string 9 w' w.heap.size (fun k_ => some k_ ≠ (s_ : Value).ownBlock) (.slice Ao11 x3_1.length co11) x3_1) ∧ (w'.heap[gb405]? = some (.cells #[.string ((qk l0 x8_1).f0), .int .i64 ((qk l0 x8_1).f1), .string ((qk l0 x8_1).f2)] 40 (0, 0))) ∧ (Below w.heap.size w w')) ?_ ?_
       rotate_left
       ·intro hCont
        refine two_ (i := 3) (j := 8) (Ni := some 15) (Nj := some 20) #[true, true, true, true, true, true, true, true, false, false, false, false, false, false, false] #[true, true, true, false, true, true, true, true, true, false, false, false, false, false, false] rfl rfl rfl rfl (two_of HT_.out yh) (by decide) (by decide) (fun K hK => ?_) (fun K hK => ?_)
        ·skip
         refine goes_ Tryz.func65 yh rfl #[.string ((qk l0 x8_1).f0)] (by rfl) rfl rfl cz ?_
         with_reducible refine (km.calls k1 ((qk l0 x8_1).f0) t406 _ A5.out).mono ?_
         rintro e w14 ⟨rfl, hb⟩
         refine ⟨_, rfl, ?_⟩
         have n0_ := qb.mk (Kd.z8 ug hb)
         have n1_ := qb.mk (q8 (g := gb405) (o := .cells #[.string ((qk l0 x8_1).f0), .int .i64 ((qk l0 x8_1).f1), .string ((qk l0 x8_1).f2)] 40 (0, 0)) uy hb)
         have n2_ := qb.mk (qm yu hb)
         clear HO_3
         clear BK405
         clear HB
         have HO_3 := n0_
         have BK405 := n1_
         have HB := n2_
         clear n0_ n1_ n2_
         (try clear hb)
         (try clear hb2)
         (try clear hk)
         (try clear hi)
         refine hK.out _ _ ⟨(qo BK405.out 0).trans rfl, (qo BK405.out 1).trans rfl, (qo BK405.out 2).trans rfl⟩ (fun hHeld => ?_)
         clear hK K
         refine jn (a' := ?_) ?_ ?_
         rotate_left
         ·show Act.put _ (some 15) _ = _
          simp only [Act.put, List.setIfInBounds_toArray, List.set_cons_zero, List.set_cons_succ, zo, zr]
          rfl
         refine one_ (i := 8) (N := some 20) #[true, true, true, true, true, true, true, true, true, false, false, false, false, false, false] rfl rfl (j8 HT_.out yh) (by decide) (fun K hK => ?_)
         refine Kd.R_lit_step Kd.string _ 9 ?hg (N := 20) ?hd (xs := ([(qk l0 x8_1).f2] : List ByteArray)) (inner := [.string ((qk l0 x8_1).f2)]) (ok := fun _ => True) (okp := fun _ => True) ?hr ?hp (fun _ hk => hk) trivial (Below.refl _ _) (Nat.le_refl _) uf ?_; (case hd => rfl); (case hg => rfl); (case hr => first | (go_simp; done) | (go_simp; rfl)); (case hp => exact (Reps.one (show Kd.M Kd.string _ _ _ ((qk l0 x8_1).f2) [.string ((qk l0 x8_1).f2)] from rfl) (Reps.none _ _)))
         intro v408 w15 ho16 hb hg_ hnew_
         clear hg_ hnew_
         (first | rw [← Ny407.out] at ho16 | (simp only [Int.reduceToNat] at ho16; rw [← Ny407.out] at ho16))
         have n0_ := qb.mk (Kd.k6 ug (Kd.je ho16) hb)
         have n1_ := qb.mk (Kd.kn (Kd.jm ho16 (Kd.R_lt ug)) (qp yu))
         have n2_ := qb.mk (q8 (g := gb405) (o := .cells #[.string ((qk l0 x8_1).f0), .int .i64 ((qk l0 x8_1).f1), .string ((qk l0 x8_1).f2)] 40 (0, 0)) uy hb)
         have n3_ := qb.mk (qm yu hb)
         clear HO_3
         clear BK405
         clear HB
         have HO_3 := n0_
         have HO409 := n1_
         have BK405 := n2_
         have HB := n3_
         clear n0_ n1_ n2_ n3_
         clear hb ho16
         refine hK.out _ _ ⟨(qo BK405.out 0).trans rfl, (qo BK405.out 1).trans rfl, (qo BK405.out 2).trans rfl⟩ (fun hHeld => ?_)
         clear hK K
         refine jn (a' := ?_) ?_ ?_
         rotate_left
         ·show Act.put _ (some 20) _ = _
          simp only [Act.put, List.setIfInBounds_toArray, List.set_cons_zero, List.set_cons_succ, zo, zr]
          rfl
         exact jn ca1 (hCont (v408) _ ⟨hHeld, (by (with_reducible repeat (first | apply Kd.qw | apply Kd.qv | apply Kd.qz)); exact Kd.xn HO409.out (fun _ hk => hk.2)), (by (with_reducible repeat (first | apply Kd.qw | apply Kd.qv | apply Kd.qz)); exact Kd.xn HO_3.out (fun _ hk => hk.2)), uy, yu⟩)
        ·skip
         refine Kd.R_lit_step Kd.string _ 9 ?hg (N := 20) ?hd (xs := ([(qk l0 x8_1).f2] : List ByteArray)) (inner := [.string ((qk l0 x8_1).f2)]) (ok := fun _ => True) (okp := fun _ => True) ?hr ?hp (fun _ hk => hk) trivial (Below.refl _ _) (Nat.le_refl _) uf ?_; (case hd => rfl); (case hg => rfl); (case hr => first | (go_simp; done) | (go_simp; rfl)); (case hp => exact (Reps.one (show Kd.M Kd.string _ _ _ ((qk l0 x8_1).f2) [.string ((qk l0 x8_1).f2)] from rfl) (Reps.none _ _)))
         intro v408 w14 ho15 hb hg_ hnew_
         clear hg_ hnew_
         (first | rw [← Ny407.out] at ho15 | (simp only [Int.reduceToNat] at ho15; rw [← Ny407.out] at ho15))
         have n0_ := qb.mk (Kd.k6 ug (Kd.je ho15) hb)
         have n1_ := qb.mk (Kd.kn (Kd.jm ho15 (Kd.R_lt ug)) (qp yu))
         have n2_ := qb.mk (q8 (g := gb405) (o := .cells #[.string ((qk l0 x8_1).f0), .int .i64 ((qk l0 x8_1).f1), .string ((qk l0 x8_1).f2)] 40 (0, 0)) uy hb)
         have n3_ := qb.mk (qm yu hb)
         clear HO_3
         clear BK405
         clear HB
         have HO_3 := n0_
         have HO409 := n1_
         have BK405 := n2_
         have HB := n3_
         clear n0_ n1_ n2_ n3_
         clear hb ho15
         refine hK.out _ _ ⟨(qo BK405.out 0).trans rfl, (qo BK405.out 1).trans rfl, (qo BK405.out 2).trans rfl⟩ (fun hHeld => ?_)
         clear hK K
         refine jn (a' := ?_) ?_ ?_
         rotate_left
         ·show Act.put _ (some 20) _ = _
          simp only [Act.put, List.setIfInBounds_toArray, List.set_cons_zero, List.set_cons_succ, zo, zr]
          rfl
         refine one_ (i := 3) (N := some 15) #[true, true, true, true, true, true, true, true, true, false, false, false, false, false, false] rfl rfl (j8 HT_.out yh) (by decide) (fun K hK => ?_)
         refine goes_ Tryz.func65 yh rfl #[.string ((qk l0 x8_1).f0)] (by rfl) rfl rfl cz ?_
         with_reducible refine (km.calls k1 ((qk l0 x8_1).f0) t406 _ A5.out).mono ?_
         rintro e w16 ⟨rfl, hb⟩
         refine ⟨_, rfl, ?_⟩
         have n0_ := qb.mk (Kd.z8 ug hb)
         have n1_ := qb.mk (Kd.z8 cal hb)
         have n2_ := qb.mk (q8 (g := gb405) (o := .cells #[.string ((qk l0 x8_1).f0), .int .i64 ((qk l0 x8_1).f1), .string ((qk l0 x8_1).f2)] 40 (0, 0)) uy hb)
         have n3_ := qb.mk (qm yu hb)
         clear HO_3
         clear HO409
         clear BK405
         clear HB
         have HO_3 := n0_
         have HO409 := n1_
         have BK405 := n2_
         have HB := n3_
         clear n0_ n1_ n2_ n3_
         (try clear hb)
         (try clear hb2)
         (try clear hk)
         (try clear hi)
         refine hK.out _ _ ⟨(qo BK405.out 0).trans rfl, (qo BK405.out 1).trans rfl, (qo BK405.out 2).trans rfl⟩ (fun hHeld => ?_)
         clear hK K
         refine jn (a' := ?_) ?_ ?_
         rotate_left
         ·show Act.put _ (some 15) _ = _
          simp only [Act.put, List.setIfInBounds_toArray, List.set_cons_zero, List.set_cons_succ, zo, zr]
          rfl
         exact jn ca1 (hCont (v408) _ ⟨hHeld, (by (with_reducible repeat (first | apply Kd.qw | apply Kd.qv | apply Kd.qz)); exact Kd.xn HO409.out (fun _ hk => hk.2)), (by (with_reducible repeat (first | apply Kd.qw | apply Kd.qv | apply Kd.qz)); exact Kd.xn HO_3.out (fun _ hk => hk.2)), uy, yu⟩)
       rintro v408 w17 ⟨hS_, h0_, h1_, h2_, h3_⟩
       have n0_ : qb (Kd.R Kd.string 9 w17 w.heap.size (fun k_ => some k_ ≠ (.slice Ao11 x3_1.length co11 : Value).ownBlock) v408 y407) := ⟨h0_⟩
       have n1_ : qb (Kd.R Kd.string 9 w17 w.heap.size (fun k_ => some k_ ≠ (v408 : Value).ownBlock) (.slice Ao11 x3_1.length co11) x3_1) := ⟨h1_⟩
       have n2_ : qb (w17.heap[gb405]? = some (.cells #[.string ((qk l0 x8_1).f0), .int .i64 ((qk l0 x8_1).f1), .string ((qk l0 x8_1).f2)] 40 (0, 0))) := ⟨h2_⟩
       have n3_ : qb (Below w.heap.size w w17) := ⟨h3_⟩
       clear HO_3
       clear BK405
       clear HB
       clear h0_ h1_ h2_ h3_
       have HO409 := n0_
       have HO_3 := n1_
       have BK405 := n2_
       have HB := n3_
       clear n0_ n1_ n2_ n3_
       have hHeld : w17.cell? ⟨gb405, 0, none⟩ = some (.string ((qk l0 x8_1).f0)) ∧ w17.cell? ⟨gb405, 1, none⟩ = some (.int .i64 ((qk l0 x8_1).f1)) ∧ w17.cell? ⟨gb405, 2, none⟩ = some (.string ((qk l0 x8_1).f2)) := hS_
       obtain ⟨Ao18, co18, eo18⟩ := Kd.xo HO409.out
       (first | subst eo18 | (injection eo18 with f1_ f2_ f3_; have f4_ := f1_.symm; have f5_ := f3_.symm; clear f1_ f2_ f3_; subst f4_; subst f5_))
       refine jn (a' := ?_) ?_ ?_
       rotate_left
       ·simp only [putAll, Act.put, List.setIfInBounds_toArray, List.set_cons_zero, List.set_cons_succ]
        rfl
       refine one_ (i := 9) (N := some 21) #[true, true, true, true, true, true, true, true, true, true, false, false, false, false, false] rfl rfl (j8 HT_.out yh) (by decide) (fun K hK => ?_)
       refine goes_ Tryz.func31 yh rfl #[.int .i64 ((qk l0 x8_1).f1), .slice Ao18 y407.length co18] (by rfl) rfl rfl cz ?_
       with_reducible refine (zj.calls k1 ((qk l0 x8_1).f1) _ _ y407 t410 _ ?side1 ?side2 A6.out).mono ?_
       (case side1 => repeat (first | exact (Kd.zq HO409.out).2.2 | (with_reducible refine Kd.xr ?_ _) | (with_reducible refine Kd.xt ?_ _) | (with_reducible refine Kd.kp ?_)))
       (case side2 => exact (Kd.zq HO409.out).2.1)
       rintro e w19 ⟨rfl, hb⟩
       refine ⟨_, rfl, ?_⟩
       have n0_ := qb.mk (Kd.z8 ug hb)
       have n1_ := qb.mk (Kd.z8 cal hb)
       have n2_ := qb.mk (q8 (g := gb405) (o := .cells #[.string ((qk l0 x8_1).f0), .int .i64 ((qk l0 x8_1).f1), .string ((qk l0 x8_1).f2)] 40 (0, 0)) uy hb)
       have n3_ := qb.mk (qm yu hb)
       clear HO_3
       clear HO409
       clear BK405
       clear HB
       have HO_3 := n0_
       have HO409 := n1_
       have BK405 := n2_
       have HB := n3_
       clear n0_ n1_ n2_ n3_
       (try clear hb)
       (try clear hb2)
       (try clear hk)
       (try clear hi)
       refine hK.out _ _ ⟨(qo BK405.out 0).trans rfl, (qo BK405.out 1).trans rfl, (qo BK405.out 2).trans rfl⟩ (fun hHeld => ?_)
       clear hK K
       refine jn (a' := ?_) ?_ ?_
       rotate_left
       ·show Act.put _ (some 21) _ = _
        simp only [Act.put, List.setIfInBounds_toArray, List.set_cons_zero, List.set_cons_succ, zo, zr]
        rfl
       refine one_ (i := 10) (N := some 22) #[true, true, true, true, true, true, true, true, true, true, true, false, false, false, false] rfl rfl (j8 HT_.out yh) (by decide) (fun K hK => ?_)
       refine Kd.R_lit_step Kd.string _ 9 ?hg (N := 22) ?hd (xs := ([t406, t410] : List ByteArray)) (inner := [.string t406, .string t410]) (ok := fun _ => True) (okp := fun _ => True) ?hr ?hp (fun _ hk => hk) trivial (Below.refl _ _) (Nat.le_refl _) uf ?_; (case hd => rfl); (case hg => rfl); (case hr => first | (go_simp; done) | (go_simp; rfl)); (case hp => exact (Reps.one (show Kd.M Kd.string _ _ _ t406 [.string t406] from rfl) (Reps.one (show Kd.M Kd.string _ _ _ t410 [.string t410] from rfl) (Reps.none _ _))))
       intro v412 w20 ho21 hb hg_ hnew_
       clear hg_ hnew_
       (first | rw [← Ny411.out] at ho21 | (simp only [Int.reduceToNat] at ho21; rw [← Ny411.out] at ho21))
       have n0_ := qb.mk (Kd.k6 ug (Kd.je ho21) hb)
       have n1_ := qb.mk (Kd.k6 cal (Kd.je ho21) hb)
       have n2_ := qb.mk (Kd.kn (Kd.jm (Kd.jm ho21 (Kd.R_lt ug)) (Kd.R_lt cal)) (qp yu))
       have n3_ := qb.mk (q8 (g := gb405) (o := .cells #[.string ((qk l0 x8_1).f0), .int .i64 ((qk l0 x8_1).f1), .string ((qk l0 x8_1).f2)] 40 (0, 0)) uy hb)
       have n4_ := qb.mk (qm yu hb)
       clear HO_3
       clear HO409
       clear BK405
       clear HB
       have HO_3 := n0_
       have HO409 := n1_
       have HO413 := n2_
       have BK405 := n3_
       have HB := n4_
       clear n0_ n1_ n2_ n3_ n4_
       clear hb ho21
       obtain ⟨Ao22, co22, eo22⟩ := Kd.xo HO413.out
       (first | subst eo22 | (injection eo22 with f1_ f2_ f3_; have f4_ := f1_.symm; have f5_ := f3_.symm; clear f1_ f2_ f3_; subst f4_; subst f5_))
       refine hK.out _ _ ⟨(qo BK405.out 0).trans rfl, (qo BK405.out 1).trans rfl, (qo BK405.out 2).trans rfl⟩ (fun hHeld => ?_)
       clear hK K
       refine jn (a' := ?_) ?_ ?_
       rotate_left
       ·show Act.put _ (some 22) _ = _
        simp only [Act.put, List.setIfInBounds_toArray, List.set_cons_zero, List.set_cons_succ, zo, zr]
        rfl
       refine one_ (i := 11) (N := some 23) #[true, true, true, true, true, true, true, true, true, true, true, true, false, false, false] rfl rfl (j8 HT_.out yh) (by decide) (fun K hK => ?_)
       refine goes_ Tryz.func31 yh rfl #[.int .i64 48, .slice Ao22 y411.length co22] (by rfl) rfl rfl cz ?_
       with_reducible refine (zj.calls k1 48 _ _ y411 t414 _ ?side1 ?side2 A7.out).mono ?_
       (case side1 => repeat (first | exact (Kd.zq HO413.out).2.2 | (with_reducible refine Kd.xr ?_ _) | (with_reducible refine Kd.xt ?_ _) | (with_reducible refine Kd.kp ?_)))
       (case side2 => exact (Kd.zq HO413.out).2.1)
       rintro e w23 ⟨rfl, hb⟩
       refine ⟨_, rfl, ?_⟩
       have n0_ := qb.mk (Kd.z8 ug hb)
       have n1_ := qb.mk (Kd.z8 cal hb)
       have n2_ := qb.mk (Kd.z8 (by (with_reducible repeat (first | apply Kd.qw | apply Kd.qv | apply Kd.qz)); exact HO413.out) hb)
       have n3_ := qb.mk (q8 (g := gb405) (o := .cells #[.string ((qk l0 x8_1).f0), .int .i64 ((qk l0 x8_1).f1), .string ((qk l0 x8_1).f2)] 40 (0, 0)) uy hb)
       have n4_ := qb.mk (qm yu hb)
       clear HO_3
       clear HO409
       clear HO413
       clear BK405
       clear HB
       have HO_3 := n0_
       have HO409 := n1_
       have HO413 := n2_
       have BK405 := n3_
       have HB := n4_
       clear n0_ n1_ n2_ n3_ n4_
       (try clear hb)
       (try clear hb2)
       (try clear hk)
       (try clear hi)
       refine hK.out _ _ ⟨(qo BK405.out 0).trans rfl, (qo BK405.out 1).trans rfl, (qo BK405.out 2).trans rfl⟩ (fun hHeld => ?_)
       clear hK K
       refine jn (a' := ?_) ?_ ?_
       rotate_left
       ·show Act.put _ (some 23) _ = _
        simp only [Act.put, List.setIfInBounds_toArray, List.set_cons_zero, List.set_cons_succ, zo, zr]
        rfl
       refine one_ (i := 12) (N := some 24) #[true, true, true, true, true, true, true, true, true, true, true, true, true, false, false] rfl rfl (j8 HT_.out yh) (by decide) (fun K hK => ?_)
       refine value_ (w1 := ?_) (v := ?_) (by rfl) rfl ?_ ?_
       rotate_left 2
       ·go_simp
        constructor
        ·rfl
        ·rfl
       refine hK.out _ _ ⟨(qo (qf BK405.out _) 0).trans rfl, (qo (qf BK405.out _) 1).trans rfl, (qo (qf BK405.out _) 2).trans rfl⟩ (fun hHeld => ?_)
       clear hK K
       refine jn (a' := ?_) ?_ ?_
       rotate_left
       ·show Act.put _ (some 24) _ = _
        simp only [Act.put, List.setIfInBounds_toArray, List.set_cons_zero, List.set_cons_succ, zo, zr]
        rfl
       refine one_ (i := 13) (N := some 25) #[true, true, true, true, true, true, true, true, true, true, true, true, true, true, false] rfl rfl (j8 HT_.out yh) (by decide) (fun K hK => ?_)
       refine Kd.R_append_step Kd.string (w0 := w) w.heap.size (by rfl) (.tmp 12) (.tmp 24) 34 9 (.string ⟨#[]⟩) 16 rfl Tryz.underlying34 info9 rfl (by decide) yg (.slice Ao11 x3_1.length co11) x3_1 t414 [.string t414] (fun k_ => some k_ ≠ (.slice Ao18 y407.length co18 : Value).ownBlock ∧ some k_ ≠ (.slice Ao22 y411.length co22 : Value).ownBlock) (fun _ => False) rfl rfl ?aP (fun _ hk => hk.elim) ?aF ?aO ?aB ?aS ?aL ?_
       (case aP => exact rfl)
       (case aB => exact yu)
       (case aF => exact (fun k_ hk => ⟨Kd.fresh' (Kd.R_lt cal) k_ hk, Kd.fresh' (Kd.R_lt (by (with_reducible repeat (first | apply Kd.qw | apply Kd.qv | apply Kd.qz)); exact HO413.out)) k_ hk⟩))
       (case aO => exact ug)
       (case aS => exact (qp yu))
       (case aL => have := LMc8.out; omega)
       intro v416 w24 ho hb hg hat
       rw [← Ny415.out] at ho
       have n0_ := qb.mk (ja (g := gb405) (o := .cells #[.string ((qk l0 x8_1).f0), .int .i64 ((qk l0 x8_1).f1), .string ((qk l0 x8_1).f2)] 40 (0, 0)) uy hg (Kd.R_ne HO_3.out BK405.out (by decide)))
       have n1_ := qb.mk (Kd.jy (ok := (fun k_ => some k_ ≠ (.slice Ao22 y411.length co22 : Value).ownBlock)) (by (with_reducible repeat (first | apply Kd.qw | apply Kd.qv | apply Kd.qz)); exact Kd.xn HO409.out (fun _ hk => ⟨hk.2, hk.1⟩)) hg hat)
       have n2_ := qb.mk (Kd.jy (ok := (fun k_ => some k_ ≠ (.slice Ao18 y407.length co18 : Value).ownBlock)) (by (with_reducible repeat (first | apply Kd.qw | apply Kd.qv | apply Kd.qz)); exact Kd.xn HO413.out (fun _ hk => ⟨hk.2, hk.1.2⟩)) hg hat)
       have n3_ := qb.mk (hb)
       have n4_ := qb.mk (ho)
       clear BK405
       clear HO409
       clear HO413
       clear HB
       clear HO_3
       have BK405 := n0_
       have HO409 := n1_
       have HO413 := n2_
       have HB := n3_
       have HO417 := n4_
       clear n0_ n1_ n2_ n3_ n4_
       clear ho hb hg hat
       refine hK.out _ _ ⟨(qo BK405.out 0).trans rfl, (qo BK405.out 1).trans rfl, (qo BK405.out 2).trans rfl⟩ (fun hHeld => ?_)
       clear hK K
       refine jn (a' := ?_) ?_ ?_
       rotate_left
       ·show Act.put _ (some 25) _ = _
        simp only [Act.put, List.setIfInBounds_toArray, List.set_cons_zero, List.set_cons_succ, zo, zr]
        rfl
       refine xq (i := 14) (N := some 3) (v := ?_) (a' := ?_) #[true, true, true, true, true, true, true, true, true, true, true, true, true, true, true] rfl rfl (xj HT_.out yh) (fun _ _ _ h => h) (Or.inl ⟨by rfl, ?_⟩) ?_ ?_
       rotate_left
       ·intro w'
        go_simp
        with_reducible rfl
       rotate_left
       ·simp only [Act.put, List.setIfInBounds_toArray, List.set_cons_zero, List.set_cons_succ, zo, zr]
        rfl
       refine done_ (done_of HT_.out yh) ?_
       try go_wp2
       go_roundg k1
       case measure => have := HK1.out; omega
       case rel => exact ⟨(y415), (wrap64 (x8_1 + 1)), yf, H', ⟨by have := HK1.out; omega⟩, ⟨by (with_reducible repeat (first | apply Kd.qw | apply Kd.qv | apply Kd.qz)); exact Kd.xn HO417.out (fun _ hk => trivial)⟩, ⟨by repeat (first | (with_reducible first | exact HB.out | apply qc | apply qa | apply qd | refine qe ?_ GE405.out) | exact HB.out)⟩⟩
      ·rw [if_neg c8] at H
       exact absurd H uf
     ·rw [if_neg c4] at H
      exact absurd H uf
    ·rw [if_neg c3] at H
     exact absurd H uf
   ·rw [if_neg c2] at H
    have c2b0 : decide (x8_1 < (l0.length : Int)) = false := decide_eq_false c2
    clear c2
    obtain rfl := Option.some.inj H
    go_wp2
    go_ret
    exact ⟨_, by first | rfl | (simp [qt, qu] <;> rfl) | (simp [*, qt, qu] <;> rfl), by (with_reducible repeat (first | apply Kd.qw | apply Kd.qv | apply Kd.qz)); exact HO_3.out, by repeat (first | (with_reducible first | exact HB.out | apply qc | apply qa | apply qd) | exact HB.out)⟩
end Go.Proofs.YthdoohfdminfgaaGreatDoor.C
end
section
namespace Go.Proofs.YthdoohfdminfgaaGreatDoor.C
open Go.RowKit Go.Proofs.YthdoohfdminfgaaGreatDoorW.PrintWords Go.Proofs.YthdoohfdminfgaaGreatDoorW.PrintLast Go.Proofs.YthdoohfdminfgaaGreatDoorW.PrintMore
attribute [local go_sem] kc xy kr ks xh xg xz xx
set_option linter.unusedVariables false
set_option linter.unusedSimpArgs false
def zi.l0 : Nat → ByteArray → List (List (S40)) → Int → Int → Option (ByteArray × Int)
 | 0, _, _, _, _ => none
 | k + 1, x5, x14, x15, x16 => if x16 < x15 then (if 0 ≤ x16 then (if x16 < (x14.length : Int) then ((q9.f k (zz x14 x16)).bind fun t425 => ((xf.f t425).bind fun t428 => ((zj.f k 49 (([t428] : List ByteArray))).bind fun t432 => (if x5.size + t432.size ≤ 9223372036854775807 then (zi.l0 k (x5 ++ t432) x14 x15 (wrap64 (x16 + 1))) else (none))))) else (none)) else (none)) else ((zj.f k 48 (([x5] : List ByteArray))).bind fun t423 => (some (t423, 0)))
def zi.f (k : Nat) (l0_0 : List (List (S40))) : Option (ByteArray × Int) := (zg.f k l0_0).bind fun t419 => (if t419 = 0 then (zi.l0 k (⟨#[]⟩ : ByteArray) l0_0 (l0_0.length : Int) 0) else (some ((⟨#[]⟩ : ByteArray), t419)))
theorem zi.xl : ∀ k, (∀ y0 y1 y2 y3, LeO (zi.l0 k y0 y1 y2 y3) (zi.l0 (k + 1) y0 y1 y2 y3))
 | 0 => fun _ _ _ _ r h => by simp [zi.l0] at h
 | k + 1 => by
  have ih0 := zi.xl k
  ·intro y0 y1 y2 y3
   unfold zi.l0
   repeat' first
   | (with_reducible exact ih0 _ _ _ _)
   | (with_reducible exact zg.mono _ _)
   | (with_reducible exact zj.mono _ _ _)
   | (with_reducible exact q9.mono _ _)
   | (with_reducible exact LeO.refl _)
   | (with_reducible exact LeO.none _)
   | (with_reducible refine LeO.ite ?_ ?_)
   | (with_reducible refine LeO.bind ?_ (fun _ => ?_))
theorem zi.mono : ∀ a0 k, LeO (zi.f k a0) (zi.f (k + 1) a0) := by
 intro a0 k
 have ih0 := zi.xl k
 unfold zi.f
 repeat' first
   | (with_reducible exact ih0 _ _ _ _)
   | (with_reducible exact zg.mono _ _)
   | (with_reducible exact zj.mono _ _ _)
   | (with_reducible exact q9.mono _ _)
   | (with_reducible exact LeO.refl _)
   | (with_reducible exact LeO.none _)
   | (with_reducible refine LeO.ite ?_ ?_)
   | (with_reducible refine LeO.bind ?_ (fun _ => ?_))
set_option maxHeartbeats 8000000 in
set_option maxRecDepth 100000 in
theorem zi.calls (k : Nat) (A0_0 : Option Addr) (c0_0 : Nat) (l0_0 : List (List (S40))) (r1 : ByteArray) (r2 : Int) (w : World) (hr0_0 : Kd.C (Kd.slice 40 k40) w A0_0 l0_0.length l0_0) (hc0_0 : l0_0.length ≤ c0_0) (h : zi.f k l0_0 = some (r1, r2)) :
  Calls Tryz.prog 10 #[.agg #[.slice A0_0 l0_0.length c0_0]] w fun e w' => e = .returned (.tuple #[.string r1, .int .i64 r2]) ∧ Below w.heap.size w w' := by
 have hu31 := Tryz.underlying31
 have HR0_0 := qb.mk hr0_0
 have HC0_0 := qb.mk hc0_0
 clear hr0_0 hc0_0
 have HB := qb.mk (Below.refl w.heap.size w)
 have H : ((zg.f k l0_0).bind fun t419 => (if t419 = 0 then (zi.l0 k (⟨#[]⟩ : ByteArray) l0_0 (l0_0.length : Int) 0) else (some ((⟨#[]⟩ : ByteArray), t419)))) = some (r1, r2) := h
 clear h
 replace H := Option.bind_eq_some_iff.mp H
 obtain ⟨t419, A20, H⟩ := H
 replace H : (if t419 = 0 then (zi.l0 k (⟨#[]⟩ : ByteArray) l0_0 (l0_0.length : Int) 0) else (some ((⟨#[]⟩ : ByteArray), t419))) = some (r1, r2) := H
 have A2 := qb.mk A20
 clear A20
 by_cases c3 : t419 = 0
 ·rw [if_pos c3] at H
  have c3b0 : (t419 == 0) = true := beq_iff_eq.mpr c3
  have c3b1 : (t419 != 0) = false := bne_eq_false_iff_eq.mpr c3
  clear c3
  have H' := qb.mk H
  clear H
  go_enter Tryz.func10, Tryz.ntmps10
  go_wp2_with (first | ((with_reducible refine zm (N := 1) rfl ?_); refine zx ?hg (N := 1) ?hd (cs := #[.slice A0_0 l0_0.length c0_0]) (t := 31) ?hr ?_; (case hd => rfl); (case hg => rfl); (case hr => first | (go_simp; done) | (go_simp; rfl)); intro gb418 hg w4 hbox hb; have n0_ := qb.mk (qm cu hb); have n1_ := qb.mk (hbox); have n2_ := qb.mk ((by rw [hg]; exact (qp cu) : w.heap.size ≤ gb418)); have n3_ := qb.mk ((by rw [hg]; exact (qp cu) : w.heap.size ≤ gb418)); clear HB; have HB := n0_; have BK418 := n1_; have GW418 := n2_; have GE418 := n3_; clear n0_ n1_ n2_ n3_; clear hb hbox hg; have hcz5_0 : w4.cell? ⟨gb418, 0, none⟩ = some (.slice A0_0 l0_0.length c0_0) := (qo BK418.out 0).trans rfl; have hfz5_0 := qr BK418.out 0) | ((with_reducible refine zl (f := 22) rfl ?_); refine xk (some 9) rfl rfl Tryz.func22 yh rfl #[.agg #[.slice A0_0 l0_0.length c0_0]] rfl cz ?_; (with_reducible refine (zg.calls k _ _ l0_0 t419 _ ?side1 ?side2 A2.out).mono ?_); (case side1 => repeat (first | exact (Kd.xv HR0_0.out HB.out) | (with_reducible refine Kd.xr ?_ _) | (with_reducible refine Kd.xt ?_ _) | (with_reducible refine Kd.kp ?_))); (case side2 => exact HC0_0.out); rintro e w6 ⟨rfl, hb⟩; refine ⟨_, rfl, ?_⟩; have n0_ := qb.mk (q8 (g := gb418) (o := .cells #[.slice A0_0 l0_0.length c0_0] 31 (0, 0)) cab hb); have n1_ := qb.mk (qm uh hb); clear BK418; clear HB; have BK418 := n0_; have HB := n1_; clear n0_ n1_; (try clear hb); (try clear hb2); (try clear hk); (try clear hi); have hcz7_0 : w6.cell? ⟨gb418, 0, none⟩ = some (.slice A0_0 l0_0.length c0_0) := (qo BK418.out 0).trans rfl; have hfz7_0 := qr BK418.out 0))
  go_loopg [5, 16] k (fun kq v5 v16 w' => ∃ (x5_1 : ByteArray) (x16_1 : Int), v5 = .string x5_1 ∧ v16 = .int .i64 x16_1 ∧ qb (zi.l0 kq x5_1 l0_0 (l0_0.length : Int) x16_1 = some (r1, r2)) ∧ qb (kq ≤ k) ∧ qb (w'.heap[gb418]? = some (.cells #[(.slice A0_0 l0_0.length c0_0)] 31 (0, 0))) ∧ qb (Below w.heap.size w w'))
  case atStart => exact ⟨((⟨#[]⟩ : ByteArray)), (0), yf, yf, H', ⟨Nat.le_refl _⟩, ⟨by (with_reducible repeat (first | refine qg ?_ _ | refine qh ?_ | refine qf ?_ _)); exact BK418.out⟩, ⟨by repeat (first | (with_reducible first | exact HB.out | apply qc | apply qa | apply qd | refine qe ?_ GE418.out) | exact HB.out)⟩⟩
  case round =>
   clear H'
   (try clear c1); (try clear c2); (try clear p2); (try clear c3); (try clear c3b0); (try clear c3b1); (try clear hcz5_0); (try clear hcz7_0); (try clear hfz5_0); try clear hfz7_0
   obtain ⟨x5_1, x16_1, rfl, rfl, HA, HK1, BK418, HB⟩ := hrel
   cases gk with
   | zero => exact absurd HA.out (by simp [zi.l0])
   | succ k1 =>
    have H := HA.out
    clear HA
    simp only [zi.l0] at H
    by_cases c8 : x16_1 < (l0_0.length : Int)
    ·rw [if_pos c8] at H
     have c8b0 : decide (x16_1 < (l0_0.length : Int)) = true := decide_eq_true c8
     clear c8
     by_cases c9 : 0 ≤ x16_1
     ·rw [if_pos c9] at H
      have c9b0 : decide (0 ≤ x16_1) = true := decide_eq_true c9
      clear c9
      by_cases c10 : x16_1 < (l0_0.length : Int)
      ·rw [if_pos c10] at H
       have c10b0 : decide (x16_1 < (l0_0.length : Int)) = true := decide_eq_true c10
       clear c10
       replace H := Option.bind_eq_some_iff.mp H
       obtain ⟨t425, A110, H⟩ := H
       replace H : ((xf.f t425).bind fun t428 => ((zj.f k1 49 (([t428] : List ByteArray))).bind fun t432 => (if x5_1.size + t432.size ≤ 9223372036854775807 then (zi.l0 k1 (x5_1 ++ t432) l0_0 (l0_0.length : Int) (wrap64 (x16_1 + 1))) else (none)))) = some (r1, r2) := H
       have A11 := qb.mk A110
       clear A110
       replace H := Option.bind_eq_some_iff.mp H
       obtain ⟨t428, A120, H⟩ := H
       replace H : ((zj.f k1 49 (([t428] : List ByteArray))).bind fun t432 => (if x5_1.size + t432.size ≤ 9223372036854775807 then (zi.l0 k1 (x5_1 ++ t432) l0_0 (l0_0.length : Int) (wrap64 (x16_1 + 1))) else (none))) = some (r1, r2) := H
       have A12 := qb.mk A120
       clear A120
       obtain ⟨y429, hy429⟩ : ∃ y_ : List ByteArray, y_ = (([t428] : List ByteArray)) := ⟨_, rfl⟩
       replace H : ((zj.f k1 49 y429).bind fun t432 => (if x5_1.size + t432.size ≤ 9223372036854775807 then (zi.l0 k1 (x5_1 ++ t432) l0_0 (l0_0.length : Int) (wrap64 (x16_1 + 1))) else (none))) = some (r1, r2) := by first | (rw [hy429]; with_reducible exact H) | (have H2_ := (Option.bind_some _ _).symm.trans H; rw [hy429]; with_reducible exact H2_) | (have H2_ := (Option.bind_some _ _).symm.trans H; with_reducible exact H2_) | with_reducible exact H | (rw [hy429]; exact H) | exact H
       have Ny429 := qb.mk hy429
       clear hy429
       replace H := Option.bind_eq_some_iff.mp H
       obtain ⟨t432, A130, H⟩ := H
       replace H : (if x5_1.size + t432.size ≤ 9223372036854775807 then (zi.l0 k1 (x5_1 ++ t432) l0_0 (l0_0.length : Int) (wrap64 (x16_1 + 1))) else (none)) = some (r1, r2) := H
       have A13 := qb.mk A130
       clear A130
       by_cases c14 : x5_1.size + t432.size ≤ 9223372036854775807
       ·rw [if_pos c14] at H
        have c14b0 := eq_true c14
        have c14b1 : decide (x5_1.size + t432.size ≤ 9223372036854775807) = true := decide_eq_true c14
        try have c14b2 : (9223372036854775807 < x5_1.size + t432.size) = False := eq_false (Nat.not_lt.2 c14)
        have H' := qb.mk H
        clear H
        have p424 : 0 ≤ (x16_1 : Int) := of_decide_eq_true yc
        have q424 : x16_1 < (l0_0.length : Int) := of_decide_eq_true yc
        obtain ⟨ad424, A424_0, c424_0, e424, hx424_0, hl424_0, hi424_0⟩ := at_L5 HR0_0.out x16_1 p424 q424
        cases e424
        replace hx424_0 := (HB.out.cell (World.block_lt_of_cell? w _ hx424_0)).trans hx424_0
        have HR424_0 := qb.mk hi424_0
        have HC424_0 := qb.mk hl424_0
        clear hi424_0 hl424_0
        replace p424 := eq_true p424
        replace q424 := eq_true q424
        go_wp2_with (first | ((with_reducible refine zl (f := 33) rfl ?_); refine xk (some 22) rfl rfl Tryz.func33 yh rfl #[.slice A424_0 (zz l0_0 x16_1).length c424_0] rfl cz ?_; (with_reducible refine (q9.calls k1 _ _ (zz l0_0 x16_1) t425 _ ?side1 ?side2 A11.out).mono ?_); (case side1 => repeat (first | exact (Kd.xv HR424_0.out HB.out) | (with_reducible refine Kd.xr ?_ _) | (with_reducible refine Kd.xt ?_ _) | (with_reducible refine Kd.kp ?_))); (case side2 => exact HC424_0.out); rintro e w15 ⟨v426, rfl, ho0, hb⟩; refine ⟨_, rfl, ?_⟩; have n0_ := qb.mk (Kd.kn ho0 (qp uh)); have n1_ := qb.mk (q8 (g := gb418) (o := .cells #[.slice (some ad424) l0_0.length c0_0] 31 (0, 0)) cab hb); have n2_ := qb.mk (qm uh hb); clear BK418; clear HB; have HO427 := n0_; have BK418 := n1_; have HB := n2_; clear n0_ n1_ n2_; (try clear hb); (try clear hb2); (try clear hk); (try clear hi); (try clear ho0); obtain ⟨Ao16, co16, eo16⟩ := Kd.xo HO427.out; subst eo16) | ((with_reducible refine zl (f := 32) rfl ?_); refine xk (some 23) rfl rfl Tryz.func32 yh rfl #[.slice Ao16 t425.length co16] rfl cz ?_; (with_reducible refine (xf.calls _ _ t425 t428 _ ?side1 ?side2 A12.out).mono ?_); (case side1 => repeat (first | exact (Kd.zq HO427.out).2.2 | (with_reducible refine Kd.xr ?_ _) | (with_reducible refine Kd.xt ?_ _) | (with_reducible refine Kd.kp ?_))); (case side2 => exact (Kd.zq HO427.out).2.1); rintro e w17 ⟨rfl, hb⟩; refine ⟨_, rfl, ?_⟩; have n0_ := qb.mk (Kd.z8 ca3 hb); have n1_ := qb.mk (q8 (g := gb418) (o := .cells #[.slice (some ad424) l0_0.length c0_0] 31 (0, 0)) cab hb); have n2_ := qb.mk (qm uh hb); clear HO427; clear BK418; clear HB; have HO427 := n0_; have BK418 := n1_; have HB := n2_; clear n0_ n1_ n2_; (try clear hb); (try clear hb2); (try clear hk); (try clear hi)) | ((with_reducible refine zm (N := 24) rfl ?_); refine Kd.jz Kd.string _ 9 ?hg (N := 24) ?hd (xs := ([t428] : List ByteArray)) (inner := [.string t428]) (ok := fun _ => True) (okp := fun _ => True) ?hr ?hp (fun _ hk => hk) trivial (Below.refl _ _) (Nat.le_refl _) uf ?_; (case hd => rfl); (case hg => rfl); (case hr => first | (go_simp; done) | (go_simp; rfl)); (case hp => exact (Reps.one (show Kd.M Kd.string _ _ _ t428 [.string t428] from rfl) (Reps.none _ _))); intro v430 w18 ho19 hb hg_ hnew_; clear hg_ hnew_; (first | rw [← Ny429.out] at ho19 | (simp only [Int.reduceToNat] at ho19; rw [← Ny429.out] at ho19)); have n0_ := qb.mk (Kd.k6 ca3 (Kd.je ho19) hb); have n1_ := qb.mk (Kd.kn (Kd.jm ho19 (Kd.R_lt ca3)) (qp uh)); have n2_ := qb.mk (q8 (g := gb418) (o := .cells #[.slice (some ad424) l0_0.length c0_0] 31 (0, 0)) cab hb); have n3_ := qb.mk (qm uh hb); clear HO427; clear BK418; clear HB; have HO427 := n0_; have HO431 := n1_; have BK418 := n2_; have HB := n3_; clear n0_ n1_ n2_ n3_; clear hb ho19; obtain ⟨Ao20, co20, eo20⟩ := Kd.xo HO431.out; subst eo20) | ((with_reducible refine zl (f := 31) rfl ?_); refine xk (some 25) rfl rfl Tryz.func31 yh rfl #[.int .i64 49, .slice Ao20 y429.length co20] rfl cz ?_; (with_reducible refine (zj.calls k1 49 _ _ y429 t432 _ ?side1 ?side2 A13.out).mono ?_); (case side1 => repeat (first | exact (Kd.zq HO431.out).2.2 | (with_reducible refine Kd.xr ?_ _) | (with_reducible refine Kd.xt ?_ _) | (with_reducible refine Kd.kp ?_))); (case side2 => exact (Kd.zq HO431.out).2.1); rintro e w21 ⟨rfl, hb⟩; refine ⟨_, rfl, ?_⟩; have n0_ := qb.mk (Kd.z8 ca3 hb); have n1_ := qb.mk (Kd.z8 (by (with_reducible repeat (first | apply Kd.qw | apply Kd.qv | apply Kd.qz)); exact HO431.out) hb); have n2_ := qb.mk (q8 (g := gb418) (o := .cells #[.slice (some ad424) l0_0.length c0_0] 31 (0, 0)) cab hb); have n3_ := qb.mk (qm uh hb); clear HO427; clear HO431; clear BK418; clear HB; have HO427 := n0_; have HO431 := n1_; have BK418 := n2_; have HB := n3_; clear n0_ n1_ n2_ n3_; (try clear hb); (try clear hb2); (try clear hk); (try clear hi)))
        go_roundg k1
        case measure => have := HK1.out; omega
        case rel => exact ⟨(x5_1 ++ t432), (wrap64 (x16_1 + 1)), yf, yf, H', ⟨by have := HK1.out; omega⟩, ⟨by (with_reducible repeat (first | refine qg ?_ _ | refine qh ?_ | refine qf ?_ _)); exact BK418.out⟩, ⟨by repeat (first | (with_reducible first | exact HB.out | apply qc | apply qa | apply qd | refine qe ?_ GE418.out) | exact HB.out)⟩⟩
       ·rw [if_neg c14] at H
        exact absurd H uf
      ·rw [if_neg c10] at H
       exact absurd H uf
     ·rw [if_neg c9] at H
      exact absurd H uf
    ·rw [if_neg c8] at H
     have c8b0 : decide (x16_1 < (l0_0.length : Int)) = false := decide_eq_false c8
     clear c8
     obtain ⟨y420, hy420⟩ : ∃ y_ : List ByteArray, y_ = (([x5_1] : List ByteArray)) := ⟨_, rfl⟩
     replace H : ((zj.f k1 48 y420).bind fun t423 => (some (t423, 0))) = some (r1, r2) := by first | (rw [hy420]; with_reducible exact H) | (have H2_ := (Option.bind_some _ _).symm.trans H; rw [hy420]; with_reducible exact H2_) | (have H2_ := (Option.bind_some _ _).symm.trans H; with_reducible exact H2_) | with_reducible exact H | (rw [hy420]; exact H) | exact H
     have Ny420 := qb.mk hy420
     clear hy420
     replace H := Option.bind_eq_some_iff.mp H
     obtain ⟨t423, A220, H⟩ := H
     replace H : (some (t423, 0)) = some (r1, r2) := H
     have A22 := qb.mk A220
     clear A220
     simp only [Option.some.injEq, Prod.mk.injEq] at H
     obtain ⟨rfl, rfl⟩ := H
     go_wp2_with (first | ((with_reducible refine zm (N := 29) rfl ?_); refine Kd.jz Kd.string _ 9 ?hg (N := 29) ?hd (xs := ([x5_1] : List ByteArray)) (inner := [.string x5_1]) (ok := fun _ => True) (okp := fun _ => True) ?hr ?hp (fun _ hk => hk) trivial (Below.refl _ _) (Nat.le_refl _) uf ?_; (case hd => rfl); (case hg => rfl); (case hr => first | (go_simp; done) | (go_simp; rfl)); (case hp => exact (Reps.one (show Kd.M Kd.string _ _ _ x5_1 [.string x5_1] from rfl) (Reps.none _ _))); intro v421 w23 ho24 hb hg_ hnew_; clear hg_ hnew_; (first | rw [← Ny420.out] at ho24 | (simp only [Int.reduceToNat] at ho24; rw [← Ny420.out] at ho24)); have n0_ := qb.mk (Kd.kn ho24 (qp uh)); have n1_ := qb.mk (q8 (g := gb418) (o := .cells #[.slice A0_0 l0_0.length c0_0] 31 (0, 0)) cab hb); have n2_ := qb.mk (qm uh hb); clear BK418; clear HB; have HO422 := n0_; have BK418 := n1_; have HB := n2_; clear n0_ n1_ n2_; clear hb ho24; obtain ⟨Ao25, co25, eo25⟩ := Kd.xo HO422.out; subst eo25) | ((with_reducible refine zl (f := 31) rfl ?_); refine xk (some 30) rfl rfl Tryz.func31 yh rfl #[.int .i64 48, .slice Ao25 y420.length co25] rfl cz ?_; (with_reducible refine (zj.calls k1 48 _ _ y420 t423 _ ?side1 ?side2 A22.out).mono ?_); (case side1 => repeat (first | exact (Kd.zq HO422.out).2.2 | (with_reducible refine Kd.xr ?_ _) | (with_reducible refine Kd.xt ?_ _) | (with_reducible refine Kd.kp ?_))); (case side2 => exact (Kd.zq HO422.out).2.1); rintro e w26 ⟨rfl, hb⟩; refine ⟨_, rfl, ?_⟩; have n0_ := qb.mk (Kd.z8 (by (with_reducible repeat (first | apply Kd.qw | apply Kd.qv | apply Kd.qz)); exact HO422.out) hb); have n1_ := qb.mk (q8 (g := gb418) (o := .cells #[.slice A0_0 l0_0.length c0_0] 31 (0, 0)) cab hb); have n2_ := qb.mk (qm uh hb); clear HO422; clear BK418; clear HB; have HO422 := n0_; have BK418 := n1_; have HB := n2_; clear n0_ n1_ n2_; (try clear hb); (try clear hb2); (try clear hk); (try clear hi)))
     go_ret2
     exact ⟨by first | rfl | (simp [qt, qu] <;> rfl) | (simp [*, qt, qu] <;> rfl), by repeat (first | (with_reducible first | exact HB.out | apply qc | apply qa | apply qd | refine qe ?_ GE418.out) | exact HB.out)⟩
 ·rw [if_neg c3] at H
  have c3b0 : (t419 == 0) = false := beq_eq_false_iff_ne.mpr c3
  have c3b1 : (t419 != 0) = true := bne_iff_ne.mpr c3
  simp only [Option.some.injEq, Prod.mk.injEq] at H
  obtain ⟨rfl, rfl⟩ := H
  go_enter Tryz.func10, Tryz.ntmps10
  go_wp2_with (first | ((with_reducible refine zm (N := 1) rfl ?_); refine zx ?hg (N := 1) ?hd (cs := #[.slice A0_0 l0_0.length c0_0]) (t := 31) ?hr ?_; (case hd => rfl); (case hg => rfl); (case hr => first | (go_simp; done) | (go_simp; rfl)); intro gb418 hg w27 hbox hb; have n0_ := qb.mk (qm cu hb); have n1_ := qb.mk (hbox); have n2_ := qb.mk ((by rw [hg]; exact (qp cu) : w.heap.size ≤ gb418)); have n3_ := qb.mk ((by rw [hg]; exact (qp cu) : w.heap.size ≤ gb418)); clear HB; have HB := n0_; have BK418 := n1_; have GW418 := n2_; have GE418 := n3_; clear n0_ n1_ n2_ n3_; clear hb hbox hg; have hcz28_0 : w27.cell? ⟨gb418, 0, none⟩ = some (.slice A0_0 l0_0.length c0_0) := (qo BK418.out 0).trans rfl; have hfz28_0 := qr BK418.out 0) | ((with_reducible refine zl (f := 22) rfl ?_); refine xk (some 9) rfl rfl Tryz.func22 yh rfl #[.agg #[.slice A0_0 l0_0.length c0_0]] rfl cz ?_; (with_reducible refine (zg.calls k _ _ l0_0 t419 _ ?side1 ?side2 A2.out).mono ?_); (case side1 => repeat (first | exact (Kd.xv HR0_0.out HB.out) | (with_reducible refine Kd.xr ?_ _) | (with_reducible refine Kd.xt ?_ _) | (with_reducible refine Kd.kp ?_))); (case side2 => exact HC0_0.out); rintro e w29 ⟨rfl, hb⟩; refine ⟨_, rfl, ?_⟩; have n0_ := qb.mk (q8 (g := gb418) (o := .cells #[.slice A0_0 l0_0.length c0_0] 31 (0, 0)) cab hb); have n1_ := qb.mk (qm uh hb); clear BK418; clear HB; have BK418 := n0_; have HB := n1_; clear n0_ n1_; (try clear hb); (try clear hb2); (try clear hk); (try clear hi)))
  go_ret2
  exact ⟨by first | rfl | (simp [qt, qu] <;> rfl) | (simp [*, qt, qu] <;> rfl), by repeat (first | (with_reducible first | exact HB.out | apply qc | apply qa | apply qd | refine qe ?_ GE418.out) | exact HB.out)⟩
def jr.f (a0 : Int) : Option (ByteArray) := (some (([(⟨#[49, 46, 50, 46, 51, 46, 49]⟩ : ByteArray), (⟨#[49, 46, 50, 46, 51, 46, 50]⟩ : ByteArray), (⟨#[49, 46, 50, 46, 51, 46, 51]⟩ : ByteArray), (⟨#[49, 46, 50, 46, 51, 46, 52]⟩ : ByteArray), (⟨#[49, 46, 50, 46, 51, 46, 53]⟩ : ByteArray), (⟨#[50, 46, 57, 57, 57, 46, 49]⟩ : ByteArray), (⟨#[50, 46, 57, 57, 57, 46, 50]⟩ : ByteArray), (⟨#[49, 46, 50, 46, 51]⟩ : ByteArray), (⟨#[50, 46, 53, 46, 50, 57, 46, 51, 50, 46, 48]⟩ : ByteArray)] : List ByteArray) : List ByteArray)).bind fun y433 => (if 0 ≤ (Int.tmod a0 9) then (if (Int.tmod a0 9) < (y433.length : Int) then (some (rdOf ByteArray.empty y433 (Int.tmod a0 9))) else (none)) else (none))
set_option maxHeartbeats 8000000 in
set_option maxRecDepth 100000 in
theorem jr.calls (a0 : Int) (r : ByteArray) (w : World) (h : jr.f a0 = some r) :
  Calls Tryz.prog 19 #[.int .i64 a0] w fun e w' => e = .returned (.string r) ∧ Below w.heap.size w w' := by
 have HB := qb.mk (Below.refl w.heap.size w)
 have H : ((some (([(⟨#[49, 46, 50, 46, 51, 46, 49]⟩ : ByteArray), (⟨#[49, 46, 50, 46, 51, 46, 50]⟩ : ByteArray), (⟨#[49, 46, 50, 46, 51, 46, 51]⟩ : ByteArray), (⟨#[49, 46, 50, 46, 51, 46, 52]⟩ : ByteArray), (⟨#[49, 46, 50, 46, 51, 46, 53]⟩ : ByteArray), (⟨#[50, 46, 57, 57, 57, 46, 49]⟩ : ByteArray), (⟨#[50, 46, 57, 57, 57, 46, 50]⟩ : ByteArray), (⟨#[49, 46, 50, 46, 51]⟩ : ByteArray), (⟨#[50, 46, 53, 46, 50, 57, 46, 51, 50, 46, 48]⟩ : ByteArray)] : List ByteArray) : List ByteArray)).bind fun y433 => (if 0 ≤ (Int.tmod a0 9) then (if (Int.tmod a0 9) < (y433.length : Int) then (some (rdOf ByteArray.empty y433 (Int.tmod a0 9))) else (none)) else (none))) = some r := h
 clear h
 obtain ⟨y433, hy433⟩ : ∃ y_ : List ByteArray, y_ = (([(⟨#[49, 46, 50, 46, 51, 46, 49]⟩ : ByteArray), (⟨#[49, 46, 50, 46, 51, 46, 50]⟩ : ByteArray), (⟨#[49, 46, 50, 46, 51, 46, 51]⟩ : ByteArray), (⟨#[49, 46, 50, 46, 51, 46, 52]⟩ : ByteArray), (⟨#[49, 46, 50, 46, 51, 46, 53]⟩ : ByteArray), (⟨#[50, 46, 57, 57, 57, 46, 49]⟩ : ByteArray), (⟨#[50, 46, 57, 57, 57, 46, 50]⟩ : ByteArray), (⟨#[49, 46, 50, 46, 51]⟩ : ByteArray), (⟨#[50, 46, 53, 46, 50, 57, 46, 51, 50, 46, 48]⟩ : ByteArray)] : List ByteArray)) := ⟨_, rfl⟩
 replace H : (if 0 ≤ (Int.tmod a0 9) then (if (Int.tmod a0 9) < (y433.length : Int) then (some (rdOf ByteArray.empty y433 (Int.tmod a0 9))) else (none)) else (none)) = some r := by first | (rw [hy433]; with_reducible exact H) | (have H2_ := (Option.bind_some _ _).symm.trans H; rw [hy433]; with_reducible exact H2_) | (have H2_ := (Option.bind_some _ _).symm.trans H; with_reducible exact H2_) | with_reducible exact H | (rw [hy433]; exact H) | exact H
 have Ny433 := qb.mk hy433
 clear hy433
 obtain ⟨ji2, hji2⟩ : ∃ j_ : Int, (Int.tmod a0 9) = j_ := ⟨_, rfl⟩
 replace H : (if 0 ≤ (ji2) then (if (ji2) < (y433.length : Int) then (some (rdOf ByteArray.empty y433 (ji2))) else (none)) else (none)) = some r := by first | (rw [hji2] at H; exact H) | (simp only [hji2] at H ⊢; exact H)
 by_cases c3 : 0 ≤ (ji2)
 ·rw [if_pos c3] at H
  have c3b0 : decide (0 ≤ (ji2)) = true := decide_eq_true c3
  clear c3
  by_cases c4 : (ji2) < (y433.length : Int)
  ·rw [if_pos c4] at H
   have c4b0 : decide ((ji2) < (y433.length : Int)) = true := decide_eq_true c4
   clear c4
   obtain rfl := Option.some.inj H
   go_enter Tryz.func19, Tryz.ntmps19
   go_wp2_with (first | ((with_reducible refine zm (N := 3) rfl ?_); refine Kd.jz Kd.string _ 9 ?hg (N := 3) ?hd (xs := ([(⟨#[49, 46, 50, 46, 51, 46, 49]⟩ : ByteArray), (⟨#[49, 46, 50, 46, 51, 46, 50]⟩ : ByteArray), (⟨#[49, 46, 50, 46, 51, 46, 51]⟩ : ByteArray), (⟨#[49, 46, 50, 46, 51, 46, 52]⟩ : ByteArray), (⟨#[49, 46, 50, 46, 51, 46, 53]⟩ : ByteArray), (⟨#[50, 46, 57, 57, 57, 46, 49]⟩ : ByteArray), (⟨#[50, 46, 57, 57, 57, 46, 50]⟩ : ByteArray), (⟨#[49, 46, 50, 46, 51]⟩ : ByteArray), (⟨#[50, 46, 53, 46, 50, 57, 46, 51, 50, 46, 48]⟩ : ByteArray)] : List ByteArray)) (inner := [.string (⟨#[49, 46, 50, 46, 51, 46, 49]⟩ : ByteArray), .string (⟨#[49, 46, 50, 46, 51, 46, 50]⟩ : ByteArray), .string (⟨#[49, 46, 50, 46, 51, 46, 51]⟩ : ByteArray), .string (⟨#[49, 46, 50, 46, 51, 46, 52]⟩ : ByteArray), .string (⟨#[49, 46, 50, 46, 51, 46, 53]⟩ : ByteArray), .string (⟨#[50, 46, 57, 57, 57, 46, 49]⟩ : ByteArray), .string (⟨#[50, 46, 57, 57, 57, 46, 50]⟩ : ByteArray), .string (⟨#[49, 46, 50, 46, 51]⟩ : ByteArray), .string (⟨#[50, 46, 53, 46, 50, 57, 46, 51, 50, 46, 48]⟩ : ByteArray)]) (ok := fun _ => True) (okp := fun _ => True) ?hr ?hp (fun _ hk => hk) trivial (Below.refl _ _) (Nat.le_refl _) uf ?_; (case hd => rfl); (case hg => rfl); (case hr => first | (go_simp; done) | (go_simp; rfl)); (case hp => exact (Reps.one (show Kd.M Kd.string _ _ _ (⟨#[49, 46, 50, 46, 51, 46, 49]⟩ : ByteArray) [.string (⟨#[49, 46, 50, 46, 51, 46, 49]⟩ : ByteArray)] from rfl) (Reps.one (show Kd.M Kd.string _ _ _ (⟨#[49, 46, 50, 46, 51, 46, 50]⟩ : ByteArray) [.string (⟨#[49, 46, 50, 46, 51, 46, 50]⟩ : ByteArray)] from rfl) (Reps.one (show Kd.M Kd.string _ _ _ (⟨#[49, 46, 50, 46, 51, 46, 51]⟩ : ByteArray) [.string (⟨#[49, 46, 50, 46, 51, 46, 51]⟩ : ByteArray)] from rfl) (Reps.one (show Kd.M Kd.string _ _ _ (⟨#[49, 46, 50, 46, 51, 46, 52]⟩ : ByteArray) [.string (⟨#[49, 46, 50, 46, 51, 46, 52]⟩ : ByteArray)] from rfl) (Reps.one (show Kd.M Kd.string _ _ _ (⟨#[49, 46, 50, 46, 51, 46, 53]⟩ : ByteArray) [.string (⟨#[49, 46, 50, 46, 51, 46, 53]⟩ : ByteArray)] from rfl) (Reps.one (show Kd.M Kd.string _ _ _ (⟨#[50, 46, 57, 57, 57, 46, 49]⟩ : ByteArray) [.string (⟨#[50, 46, 57, 57, 57, 46, 49]⟩ : ByteArray)] from rfl) (Reps.one (show Kd.M Kd.string _ _ _ (⟨#[50, 46, 57, 57, 57, 46, 50]⟩ : ByteArray) [.string (⟨#[50, 46, 57, 57, 57, 46, 50]⟩ : ByteArray)] from rfl) (Reps.one (show Kd.M Kd.string _ _ _ (⟨#[49, 46, 50, 46, 51]⟩ : ByteArray) [.string (⟨#[49, 46, 50, 46, 51]⟩ : ByteArray)] from rfl) (Reps.one (show Kd.M Kd.string _ _ _ (⟨#[50, 46, 53, 46, 50, 57, 46, 51, 50, 46, 48]⟩ : ByteArray) [.string (⟨#[50, 46, 53, 46, 50, 57, 46, 51, 50, 46, 48]⟩ : ByteArray)] from rfl) (Reps.none _ _))))))))))); intro v434 w5 ho6 hb hg_ hnew_; clear hg_ hnew_; (first | rw [← Ny433.out] at ho6 | (simp only [Int.reduceToNat] at ho6; rw [← Ny433.out] at ho6)); have n0_ := qb.mk (Kd.kn ho6 (qp cu)); have n1_ := qb.mk (qm cu hb); clear HB; have HO435 := n0_; have HB := n1_; clear n0_ n1_; clear hb ho6; obtain ⟨Ao7, co7, eo7⟩ := Kd.xo HO435.out; subst eo7; have p436 : 0 ≤ ((ji2) : Int) := of_decide_eq_true yc; have q436 : (ji2) < (y433.length : Int) := of_decide_eq_true yc; obtain ⟨ad436, e436, hx436_0⟩ := Kd.at_string (Kd.zq HO435.out).2.2 (ji2) p436 q436; cases e436; replace p436 := eq_true p436; replace q436 := eq_true q436))
   go_ret
   exact ⟨by first | rfl | (simp [qt, qu] <;> rfl) | (simp only [← hji2]; first | rfl | (simp [qt, qu] <;> rfl)) | (simp [*, qt, qu] <;> rfl), by repeat (first | (with_reducible first | exact HB.out | apply qc | apply qa | apply qd) | exact HB.out)⟩
  ·rw [if_neg c4] at H
   exact absurd H uf
 ·rw [if_neg c3] at H
  exact absurd H uf
end Go.Proofs.YthdoohfdminfgaaGreatDoor.C
end
section
namespace Go.Proofs.YthdoohfdminfgaaGreatDoor.Pl
open Go.RowKit Go.Proofs.YthdoohfdminfgaaGreatDoorW.PrintWords Go.Proofs.YthdoohfdminfgaaGreatDoor.C
set_option linter.unusedSimpArgs false
set_option linter.unusedVariables false
set_option maxRecDepth 100000
def foldStep (st : List Int × Bool) (c : Int) : List Int × Bool := if c = 32 then (st.1, decide ((st.1.length : Int) > 0)) else (st.1 ++ (if st.2 then [32] else []) ++ [lowC c], false)
def foldP (l : List Int) : List Int := (l.foldl foldStep ([], false)).1
def F (s : ByteArray) : ByteArray := strOfNums (foldP (bytesOf s))
theorem at40 {l : List S40} {i : Nat} (h : i < l.length) : qk l (i : Int) = l[i] := by
 unfold qk
 rw [Int.toNat_natCast, List.getD_eq_getElem?_getD, List.getElem?_eq_getElem h]
 rfl
theorem atL5 {l : List (List S40)} {i : Nat} (h : i < l.length) : zz l (i : Int) = l[i] := by
 unfold zz
 rw [Int.toNat_natCast, List.getD_eq_getElem?_getD, List.getElem?_eq_getElem h]
 rfl
end Go.Proofs.YthdoohfdminfgaaGreatDoor.Pl
end
