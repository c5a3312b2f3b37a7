/- Words, walks and plain laws that the claim rests on, gathered. -/
import Derived.Below
import Derived.Deep.Draws
import Derived.Deep.AppendLies
import Derived.Maps.AppendAt
import Derived.OwnWalk
import Derived.Laws.BytesArg
import Derived.Laws.MakeOwn
import Derived.Laws.OwnMore
import Derived.Deep.OwnRows
import Derived.Tactics
import Derived.Lib.ConvBytes
import Derived.Laws.Slices
import Derived.WalkKit
import Derived.KernelRfl
import Derived.RowKit3
import Derived.Deep.LoopGhost
import Derived.Deep.QuietTactic
import Derived.BigQuiet
import Derived.WideLaws
import Derived.Deep.DeepCutAuto
import Derived.Deep.CutBlock
import Derived.Deep.RegionHeld3
import Derived.Laws.Rows
import Derived.Lib.AppendStr
import Derived.ArgAppend
import Derived.Laws.IdiomCopy
import Derived.RowKit
import Derived.OrdersHeld
import Derived.Laws.BitsLemmas
import Derived.Laws.StructEq
import Derived.Test.YtjhlinifnjoefaaDoorProg
import Derived.WalkSpells
import Derived.Shelf.Small.Strs
import Derived.Shelf.Strings.Search1
import Derived.Shelf.Strings.Search2
import Derived.Shelf.Strings.Search3
import Derived.Shelf.Strings.Cut
import Derived.Shelf.Strings.Count
import Derived.Shelf.LaysM
import Derived.Shelf.Strings.Shaped
import Derived.Shelf.Strings.Prefix
import Derived.Shelf.Strings.Split
import Derived.Shelf.Strings.SplitShaped
import Derived.Shelf.Unicode.DecodeSlow
import Derived.Test.YtjhlinifnjoefaaDoorNA0
import Derived.Test.YtjhlinifnjoefaaDoorNA1
import Derived.Test.YtjhlinifnjoefaaDoorNA2
import Derived.Test.YtjhlinifnjoefaaDoorNA3
import Derived.Test.YtjhlinifnjoefaaDoorNA4
import Derived.Test.YtjhlinifnjoefaaDoorNA5
namespace Go.Proofs.YtjhlinifnjoefaaDoorW.PrintLast
end Go.Proofs.YtjhlinifnjoefaaDoorW.PrintLast
namespace Go.Proofs.YtjhlinifnjoefaaDoorW.PrintMore
end Go.Proofs.YtjhlinifnjoefaaDoorW.PrintMore
namespace Go.Proofs.YtjhlinifnjoefaaDoorW.PrintWords
end Go.Proofs.YtjhlinifnjoefaaDoorW.PrintWords
section
namespace Go.Proofs.YtjhlinifnjoefaaDoor.C
open Go.RowKit Go.Proofs.YtjhlinifnjoefaaDoorW.PrintWords Go.Proofs.YtjhlinifnjoefaaDoorW.PrintLast Go.Proofs.YtjhlinifnjoefaaDoorW.PrintMore
attribute [local go_sem] xr xp xw xx xf xe xq xo
set_option linter.unusedVariables false
set_option linter.unusedSimpArgs false
mutual
def qw.l0 : Nat → ByteArray → List Int → Int → Option (ByteArray × Bool)
 | 0, _, _, _ => none
 | k + 1, x0, x4, x5 => if x5 < (x0.size : Int) then (if 0 ≤ x5 then ((kc.f (bt x0 x5)).bind fun t174 => (if t174 = true then (if x4.length < 140737488355328 then (qw.l0 k x0 (x4 ++ [bt x0 x5]) (wrap64 (x5 + 1))) else (none)) else (if (bt x0 x5) = 92 then (qw.j1 k x0 x4 x5 (decide ((wrap64 ((x0.size : Int) - x5)) < 3))) else (qw.j1 k x0 x4 x5 true)))) else (none)) else (some (strOfNums x4, true))
def qw.j1 : Nat → ByteArray → List Int → Int → Bool → Option (ByteArray × Bool)
 | 0, _, _, _, _ => none
 | k + 1, x0, x4, x5, x34 => if x34 = true then (some ((⟨#[]⟩ : ByteArray), false)) else (if 0 ≤ (wrap64 (x5 + 1)) then (if (wrap64 (x5 + 1)) < (x0.size : Int) then ((strings_IndexByte.f (⟨#[48, 49, 50, 51, 52, 53, 54, 55, 56, 57, 97, 98, 99, 100, 101, 102]⟩ : ByteArray) (bt x0 (wrap64 (x5 + 1)))).bind fun t178 => (if 0 ≤ (wrap64 (x5 + 2)) then (if (wrap64 (x5 + 2)) < (x0.size : Int) then ((strings_IndexByte.f (⟨#[48, 49, 50, 51, 52, 53, 54, 55, 56, 57, 97, 98, 99, 100, 101, 102]⟩ : ByteArray) (bt x0 (wrap64 (x5 + 2)))).bind fun t179 => (if t178 < 0 then (qw.j2 k x0 x4 x5 t178 t179 true) else (if t179 < 0 then (qw.j2 k x0 x4 x5 t178 t179 true) else ((kc.f ((Go.bits .or .i64 (wrap64 (t178 * 16)) t179) % 256)).bind fun t180 => (qw.j2 k x0 x4 x5 t178 t179 t180))))) else (none)) else (none))) else (none)) else (none))
def qw.j2 : Nat → ByteArray → List Int → Int → Int → Int → Bool → Option (ByteArray × Bool)
 | 0, _, _, _, _, _, _ => none
 | k + 1, x0, x4, x5, x6, x7, x58 => if x58 = true then (some ((⟨#[]⟩ : ByteArray), false)) else (if x4.length < 140737488355328 then (qw.l0 k x0 (x4 ++ [(Go.bits .or .i64 (wrap64 (x6 * 16)) x7) % 256]) (wrap64 ((wrap64 (x5 + 2)) + 1))) else (none))
end
def qw.f (k : Nat) (a0 : ByteArray) : Option (ByteArray × Bool) := qw.l0 k a0 ([] : List Int) 0
theorem qw.xu : ∀ k, (∀ y0 y1 y2, LeO (qw.l0 k y0 y1 y2) (qw.l0 (k + 1) y0 y1 y2)) ∧ (∀ y0 y1 y2 y3, LeO (qw.j1 k y0 y1 y2 y3) (qw.j1 (k + 1) y0 y1 y2 y3)) ∧ (∀ y0 y1 y2 y3 y4 y5, LeO (qw.j2 k y0 y1 y2 y3 y4 y5) (qw.j2 (k + 1) y0 y1 y2 y3 y4 y5))
 | 0 => ⟨fun _ _ _ r h => by simp [qw.l0] at h, fun _ _ _ _ r h => by simp [qw.j1] at h, fun _ _ _ _ _ _ r h => by simp [qw.j2] at h⟩
 | k + 1 => by
  obtain ⟨ih0, ih1, ih2⟩ := qw.xu k
  refine ⟨?_, ?_, ?_⟩
  ·intro y0 y1 y2
   unfold qw.l0
   repeat' first
   | (with_reducible exact ih0 _ _ _)
   | (with_reducible exact ih1 _ _ _ _)
   | (with_reducible exact ih2 _ _ _ _ _ _)
   | (with_reducible exact LeO.refl _)
   | (with_reducible exact LeO.none _)
   | (with_reducible refine LeO.ite ?_ ?_)
   | (with_reducible refine LeO.bind ?_ (fun _ => ?_))
  ·intro y0 y1 y2 y3
   unfold qw.j1
   repeat' first
   | (with_reducible exact ih0 _ _ _)
   | (with_reducible exact ih1 _ _ _ _)
   | (with_reducible exact ih2 _ _ _ _ _ _)
   | (with_reducible exact LeO.refl _)
   | (with_reducible exact LeO.none _)
   | (with_reducible refine LeO.ite ?_ ?_)
   | (with_reducible refine LeO.bind ?_ (fun _ => ?_))
  ·intro y0 y1 y2 y3 y4 y5
   unfold qw.j2
   repeat' first
   | (with_reducible exact ih0 _ _ _)
   | (with_reducible exact ih1 _ _ _ _)
   | (with_reducible exact ih2 _ _ _ _ _ _)
   | (with_reducible exact LeO.refl _)
   | (with_reducible exact LeO.none _)
   | (with_reducible refine LeO.ite ?_ ?_)
   | (with_reducible refine LeO.bind ?_ (fun _ => ?_))
theorem qw.mono : ∀ a0 k, LeO (qw.f k a0) (qw.f (k + 1) a0) := by
 intro a0 k
 obtain ⟨ih0, ih1, ih2⟩ := qw.xu k
 unfold qw.f
 repeat' first
   | (with_reducible exact ih0 _ _ _)
   | (with_reducible exact ih1 _ _ _ _)
   | (with_reducible exact ih2 _ _ _ _ _ _)
   | (with_reducible exact LeO.refl _)
   | (with_reducible exact LeO.none _)
   | (with_reducible refine LeO.ite ?_ ?_)
   | (with_reducible refine LeO.bind ?_ (fun _ => ?_))
set_option maxHeartbeats 8000000 in
set_option maxRecDepth 100000 in
theorem qw.calls (k : Nat) (a0 : ByteArray) (r1 : ByteArray) (r2 : Bool) (w : World) (h : qw.f k a0 = some (r1, r2)) :
  Calls Tryd.prog 48 #[.string a0] w fun e w' => e = .returned (.tuple #[.string r1, .bool r2]) ∧ Below w.heap.size w w' := by
 have HB := qa.mk (Below.refl w.heap.size w)
 have H : (qw.l0 k a0 ([] : List Int) 0) = some (r1, r2) := h
 clear h
 have H' := qa.mk H
 clear H
 go_enter Tryd.func48, Tryd.ntmps48
 go_wp2
 repeat (go_quiet (fail); try go_wp2)
 go_loopg [4, 5] k (fun kq v4 v5 w' => ∃ (x4_1 : List Int) (x5_1 : Int), v5 = .int .i64 x5_1 ∧ qa (qw.l0 kq a0 x4_1 x5_1 = some (r1, r2)) ∧ qa (kq ≤ k) ∧ qa (Kd.R (Kd.int .u8) 5 w' w.heap.size (fun _ => True) v4 x4_1) ∧ qa (Below w.heap.size w w'))
 case atStart => exact ⟨(([] : List Int)), (0), (by first | rfl | (simp; done) | (simp [*]; done)), H', ⟨Nat.le_refl _⟩, ⟨by first | exact Kd.R_nil _ _ _ _ _ | exact Kd.N_nil _ _ _ _ _ | exact Kd.V_nil _ _ _ _ _ | exact Kd.Q_nil _ _ _ _ _ | exact Kd.S_nil _ _ _ _ _⟩, ⟨by repeat (first | (with_reducible first | exact HB.out | apply qc | apply qb | apply qd) | exact HB.out)⟩⟩
 case round =>
  clear H'
  obtain ⟨x4_1, x5_1, rfl, HA, HK1, HO_4, HB⟩ := hrel
  cases gk with
  | zero => exact absurd HA.out (by simp [qw.l0])
  | succ k1 =>
   have H := HA.out
   clear HA
   simp only [qw.l0] at H
   by_cases c2 : x5_1 < (a0.size : Int)
   ·rw [if_pos c2] at H
    have c2b0 : decide (x5_1 < (a0.size : Int)) = true := decide_eq_true c2
    clear c2
    by_cases c3 : 0 ≤ x5_1
    ·rw [if_pos c3] at H
     have c3b0 : decide (0 ≤ x5_1) = true := decide_eq_true c3
     clear c3
     replace H := Option.bind_eq_some_iff.mp H
     obtain ⟨t174, A50, H⟩ := H
     replace H : (if t174 = true then (if x4_1.length < 140737488355328 then (qw.l0 k1 a0 (x4_1 ++ [bt a0 x5_1]) (wrap64 (x5_1 + 1))) else (none)) else (if (bt a0 x5_1) = 92 then (qw.j1 k1 a0 x4_1 x5_1 (decide ((wrap64 ((a0.size : Int) - x5_1)) < 3))) else (qw.j1 k1 a0 x4_1 x5_1 true))) = some (r1, r2) := H
     have A5 := qa.mk A50
     clear A50
     by_cases c6 : t174 = true
     ·subst c6
      have H1 : (if x4_1.length < 140737488355328 then (qw.l0 k1 a0 (x4_1 ++ [bt a0 x5_1]) (wrap64 (x5_1 + 1))) else (none)) = some (r1, r2) := by rw [if_pos rfl] at H; exact H
      clear H
      have H := H1
      clear H1
      by_cases c8 : x4_1.length < 140737488355328
      ·rw [if_pos c8] at H
       have LMc8 := qa.mk c8
       clear c8
       obtain ⟨y175, hy175⟩ : ∃ y_ : List Int, y_ = (x4_1 ++ [bt a0 x5_1]) := ⟨_, rfl⟩
       replace H : (qw.l0 k1 a0 y175 (wrap64 (x5_1 + 1))) = some (r1, r2) := by first | (rw [hy175]; with_reducible exact H) | (have H2_ := (Option.bind_some _ _).symm.trans H; rw [hy175]; with_reducible exact H2_) | (have H2_ := (Option.bind_some _ _).symm.trans H; with_reducible exact H2_) | with_reducible exact H | (rw [hy175]; exact H) | exact H
       have Ny175 := qa.mk hy175
       clear hy175
       have H' := qa.mk H
       clear H
       have p4 : 0 ≤ (x5_1 : Int) := of_decide_eq_true (by first | (with_reducible assumption) | assumption)
       have q4 : x5_1 < (a0.size : Int) := of_decide_eq_true (by first | (with_reducible assumption) | assumption)
       have hx4 := bt_at a0 x5_1
       replace p4 := eq_true p4
       replace q4 := eq_true q4
       go_wp2_with (first | (go_at_call 59; (with_reducible refine (kc.calls (bt a0 x5_1) true _ A5.out).mono ?_); rintro e w' ⟨rfl, ⟨nd, rfl⟩⟩; (try first | exact ⟨rfl, _, World.drewN_drewN _ _ _⟩ | exact ⟨rfl, _, Eq.trans (World.drewN_drewN _ _ _) (congrArg (World.drewN _) (Nat.add_assoc _ _ _))⟩); have p7 : 0 ≤ (x5_1 : Int) := of_decide_eq_true (by first | (with_reducible assumption) | assumption); have q7 : x5_1 < (a0.size : Int) := of_decide_eq_true (by first | (with_reducible assumption) | assumption); have hx7 := bt_at a0 x5_1; replace p7 := eq_true p7; replace q7 := eq_true q7) | ((with_reducible refine xy (b := .append) (xs := #[.tmp 18, .tmp 22]) rfl ?_); (try (refine xl (by rfl) ?_; dsimp only)); at_builtin; refine Kd.kr (Kd.int .u8) (w0 := w) w.heap.size rfl (.tmp 18) (.tmp 22) 46 5 (.int .u8 0) 1 rfl Tryd.underlying46 info5 rfl (by decide) (by omega) u4 x4_1 (bt a0 x5_1) [.int .u8 (bt a0 x5_1)] (fun _ => True) (fun _ => False) rfl rfl ?aP (fun _ hk => hk.elim) ?aF ?aO ?aB ?aS ?aL ?_; (case aP => exact rfl); (case aB => exact (by repeat (first | (with_reducible first | exact HB.out | apply qc | apply qb | apply qd) | exact HB.out))); (case aF => exact (fun _ _ => trivial)); (case aO => exact (by (with_reducible repeat (first | apply Kd.zi | apply Kd.ze | apply Kd.zv)); exact HO_4.out)); (case aS => exact (qm (by repeat (first | (with_reducible first | exact HB.out | apply qc | apply qb | apply qd) | exact HB.out)))); (case aL => have := LMc8.out; omega); intro v176 w9 ho hb hg hat; rw [← Ny175.out] at ho; have n0_ := qa.mk (hb); have n1_ := qa.mk (ho); clear HB; clear HO_4; have HB := n0_; have HO177 := n1_; clear n0_ n1_; clear ho hb hg hat))
       repeat (go_quiet (first | (go_at_call 59; (with_reducible refine (kc.calls (bt a0 x5_1) true _ A5.out).mono ?_); rintro e w' ⟨rfl, ⟨nd, rfl⟩⟩; (try first | exact ⟨rfl, _, World.drewN_drewN _ _ _⟩ | exact ⟨rfl, _, Eq.trans (World.drewN_drewN _ _ _) (congrArg (World.drewN _) (Nat.add_assoc _ _ _))⟩); have p7 : 0 ≤ (x5_1 : Int) := of_decide_eq_true (by first | (with_reducible assumption) | assumption); have q7 : x5_1 < (a0.size : Int) := of_decide_eq_true (by first | (with_reducible assumption) | assumption); have hx7 := bt_at a0 x5_1; replace p7 := eq_true p7; replace q7 := eq_true q7) | ((with_reducible refine xy (b := .append) (xs := #[.tmp 18, .tmp 22]) rfl ?_); (try (refine xl (by rfl) ?_; dsimp only)); at_builtin; refine Kd.kr (Kd.int .u8) (w0 := w) w.heap.size rfl (.tmp 18) (.tmp 22) 46 5 (.int .u8 0) 1 rfl Tryd.underlying46 info5 rfl (by decide) (by omega) u4 x4_1 (bt a0 x5_1) [.int .u8 (bt a0 x5_1)] (fun _ => True) (fun _ => False) rfl rfl ?aP (fun _ hk => hk.elim) ?aF ?aO ?aB ?aS ?aL ?_; (case aP => exact rfl); (case aB => exact (by repeat (first | (with_reducible first | exact HB.out | apply qc | apply qb | apply qd) | exact HB.out))); (case aF => exact (fun _ _ => trivial)); (case aO => exact (by (with_reducible repeat (first | apply Kd.zi | apply Kd.ze | apply Kd.zv)); exact HO_4.out)); (case aS => exact (qm (by repeat (first | (with_reducible first | exact HB.out | apply qc | apply qb | apply qd) | exact HB.out)))); (case aL => have := LMc8.out; omega); intro v176 w9 ho hb hg hat; rw [← Ny175.out] at ho; have n0_ := qa.mk (hb); have n1_ := qa.mk (ho); clear HB; clear HO_4; have HB := n0_; have HO177 := n1_; clear n0_ n1_; clear ho hb hg hat)); try go_wp2_with (first | (go_at_call 59; (with_reducible refine (kc.calls (bt a0 x5_1) true _ A5.out).mono ?_); rintro e w' ⟨rfl, ⟨nd, rfl⟩⟩; (try first | exact ⟨rfl, _, World.drewN_drewN _ _ _⟩ | exact ⟨rfl, _, Eq.trans (World.drewN_drewN _ _ _) (congrArg (World.drewN _) (Nat.add_assoc _ _ _))⟩); have p7 : 0 ≤ (x5_1 : Int) := of_decide_eq_true (by first | (with_reducible assumption) | assumption); have q7 : x5_1 < (a0.size : Int) := of_decide_eq_true (by first | (with_reducible assumption) | assumption); have hx7 := bt_at a0 x5_1; replace p7 := eq_true p7; replace q7 := eq_true q7) | ((with_reducible refine xy (b := .append) (xs := #[.tmp 18, .tmp 22]) rfl ?_); (try (refine xl (by rfl) ?_; dsimp only)); at_builtin; refine Kd.kr (Kd.int .u8) (w0 := w) w.heap.size rfl (.tmp 18) (.tmp 22) 46 5 (.int .u8 0) 1 rfl Tryd.underlying46 info5 rfl (by decide) (by omega) u4 x4_1 (bt a0 x5_1) [.int .u8 (bt a0 x5_1)] (fun _ => True) (fun _ => False) rfl rfl ?aP (fun _ hk => hk.elim) ?aF ?aO ?aB ?aS ?aL ?_; (case aP => exact rfl); (case aB => exact (by repeat (first | (with_reducible first | exact HB.out | apply qc | apply qb | apply qd) | exact HB.out))); (case aF => exact (fun _ _ => trivial)); (case aO => exact (by (with_reducible repeat (first | apply Kd.zi | apply Kd.ze | apply Kd.zv)); exact HO_4.out)); (case aS => exact (qm (by repeat (first | (with_reducible first | exact HB.out | apply qc | apply qb | apply qd) | exact HB.out)))); (case aL => have := LMc8.out; omega); intro v176 w9 ho hb hg hat; rw [← Ny175.out] at ho; have n0_ := qa.mk (hb); have n1_ := qa.mk (ho); clear HB; clear HO_4; have HB := n0_; have HO177 := n1_; clear n0_ n1_; clear ho hb hg hat)))
       go_roundg k1
       case measure => have := HK1.out; omega
       case rel => exact ⟨(y175), (wrap64 (x5_1 + 1)), (by first | rfl | (simp; done) | (simp [*]; done)), H', ⟨by have := HK1.out; omega⟩, ⟨by (with_reducible repeat (first | apply Kd.zi | apply Kd.ze | apply Kd.zv)); exact HO177.out⟩, ⟨by repeat (first | (with_reducible first | exact HB.out | apply qc | apply qb | apply qd) | exact HB.out)⟩⟩
      ·rw [if_neg c8] at H
       exact absurd H (by simp)
     ·replace c6 := Bool.eq_false_iff.mpr c6
      subst c6
      have H1 : (if (bt a0 x5_1) = 92 then (qw.j1 k1 a0 x4_1 x5_1 (decide ((wrap64 ((a0.size : Int) - x5_1)) < 3))) else (qw.j1 k1 a0 x4_1 x5_1 true)) = some (r1, r2) := by rw [if_neg (show ¬ (false = true) by decide)] at H; exact H
      clear H
      have H := H1
      clear H1
      have HC10 := qa.mk H
      clear H
      have p4 : 0 ≤ (x5_1 : Int) := of_decide_eq_true (by first | (with_reducible assumption) | assumption)
      have q4 : x5_1 < (a0.size : Int) := of_decide_eq_true (by first | (with_reducible assumption) | assumption)
      have hx4 := bt_at a0 x5_1
      replace p4 := eq_true p4
      replace q4 := eq_true q4
      go_upto_region 7 with (first | (go_at_call 59; (with_reducible refine (kc.calls (bt a0 x5_1) false _ A5.out).mono ?_); rintro e w' ⟨rfl, ⟨nd, rfl⟩⟩; (try first | exact ⟨rfl, _, World.drewN_drewN _ _ _⟩ | exact ⟨rfl, _, Eq.trans (World.drewN_drewN _ _ _) (congrArg (World.drewN _) (Nat.add_assoc _ _ _))⟩)))
      repeat (go_quiet (first | (go_at_call 59; (with_reducible refine (kc.calls (bt a0 x5_1) false _ A5.out).mono ?_); rintro e w' ⟨rfl, ⟨nd, rfl⟩⟩; (try first | exact ⟨rfl, _, World.drewN_drewN _ _ _⟩ | exact ⟨rfl, _, Eq.trans (World.drewN_drewN _ _ _) (congrArg (World.drewN _) (Nat.add_assoc _ _ _))⟩))); go_upto_region 7 with (first | (go_at_call 59; (with_reducible refine (kc.calls (bt a0 x5_1) false _ A5.out).mono ?_); rintro e w' ⟨rfl, ⟨nd, rfl⟩⟩; (try first | exact ⟨rfl, _, World.drewN_drewN _ _ _⟩ | exact ⟨rfl, _, Eq.trans (World.drewN_drewN _ _ _) (congrArg (World.drewN _) (Nat.add_assoc _ _ _))⟩))))
      (try simp only [Act.put, List.setIfInBounds_toArray, List.set_cons_zero, List.set_cons_succ])
      go_cut [34] (fun v34 wc => ∃ (kq : Nat) (x34_9 : Bool), v34 = .bool x34_9 ∧ qa (qw.j1 kq a0 x4_1 x5_1 x34_9 = some (r1, r2)) ∧ qa (kq ≤ k1) ∧ qa (Kd.R (Kd.int .u8) 5 wc w.heap.size (fun _ => True) u4 x4_1) ∧ qa (Below w.heap.size w wc))
      case first =>
       have H := HC10.out
       clear HC10
       by_cases c12 : (bt a0 x5_1) = 92
       ·rw [if_pos c12] at H
        have c12b0 : ((bt a0 x5_1) == 92) = true := beq_iff_eq.mpr c12
        have c12b1 : ((bt a0 x5_1) != 92) = false := bne_eq_false_iff_eq.mpr c12
        clear c12
        (first | rw [c12b0] | (simp only [qy, qz]; rw [c12b0]) | skip)
        have H' := qa.mk H
        clear H
        have p11 : 0 ≤ (x5_1 : Int) := of_decide_eq_true (by first | (with_reducible assumption) | assumption)
        have q11 : x5_1 < (a0.size : Int) := of_decide_eq_true (by first | (with_reducible assumption) | assumption)
        have hx11 := bt_at a0 x5_1
        replace p11 := eq_true p11
        replace q11 := eq_true q11
        go_wp2
        repeat (go_quiet (fail); try go_wp2)
        go_meet
        case rel => exact ⟨_, (decide ((wrap64 ((a0.size : Int) - x5_1)) < 3)), (by first | rfl | (simp; done) | (simp [*]; done)), H', ⟨by have := HK1.out; first | omega | exact Nat.le_refl _⟩, ⟨by (with_reducible repeat (first | apply Kd.zi | apply Kd.ze | apply Kd.zv)); exact HO_4.out⟩, ⟨by repeat (first | (with_reducible first | exact HB.out | apply qc | apply qb | apply qd) | exact HB.out)⟩⟩
       ·rw [if_neg c12] at H
        have c12b0 : ((bt a0 x5_1) == 92) = false := beq_eq_false_iff_ne.mpr c12
        have c12b1 : ((bt a0 x5_1) != 92) = true := bne_iff_ne.mpr c12
        (first | rw [c12b0] | (simp only [qy, qz]; rw [c12b0]) | skip)
        have H' := qa.mk H
        clear H
        have p11 : 0 ≤ (x5_1 : Int) := of_decide_eq_true (by first | (with_reducible assumption) | assumption)
        have q11 : x5_1 < (a0.size : Int) := of_decide_eq_true (by first | (with_reducible assumption) | assumption)
        have hx11 := bt_at a0 x5_1
        replace p11 := eq_true p11
        replace q11 := eq_true q11
        go_wp2
        repeat (go_quiet (fail); try go_wp2)
        go_meet
        case rel => exact ⟨_, (true), (by first | rfl | (simp; done) | (simp [*]; done)), H', ⟨by have := HK1.out; first | omega | exact Nat.le_refl _⟩, ⟨by (with_reducible repeat (first | apply Kd.zi | apply Kd.ze | apply Kd.zv)); exact HO_4.out⟩, ⟨by repeat (first | (with_reducible first | exact HB.out | apply qc | apply qb | apply qd) | exact HB.out)⟩⟩
      case rest =>
       clear HC10
       (try clear c1); (try clear p1); (try clear q1); (try clear hx1); (try clear c2); (try clear c2b0); (try clear p2); (try clear c3); (try clear c3b0); (try clear c4); (try clear p4); try clear q4
       (try clear hx4); (try clear c6); (try clear p6); (try clear p7); (try clear q7); (try clear hx7); (try clear c8); (try clear p11); (try clear q11); (try clear hx11); (try clear c12); try clear c12b0
       (try clear c12b1); (try clear p11); (try clear p4); (try clear p7); (try clear q11); (try clear q4); try clear q7
       obtain ⟨kq, x34_9, rfl, HA, HJ9, HO_4, HB⟩ := hcut
       cases kq with
       | zero => exact absurd HA.out (by simp [qw.j1])
       | succ kj9 =>
        have H := HA.out
        clear HA
        simp only [qw.j1] at H
        by_cases c13 : x34_9 = true
        ·subst c13
         have H1 : (some ((⟨#[]⟩ : ByteArray), false)) = some (r1, r2) := by rw [if_pos rfl] at H; exact H
         clear H
         have H := H1
         clear H1
         simp only [Option.some.injEq, Prod.mk.injEq] at H
         obtain ⟨rfl, rfl⟩ := H
         go_wp2
         repeat (go_quiet (fail); try go_wp2)
         go_ret2
         exact ⟨by first | rfl | (simp [qq, qp] <;> rfl) | (simp [*, qq, qp] <;> rfl), by repeat (first | (with_reducible first | exact HB.out | apply qc | apply qb | apply qd) | exact HB.out)⟩
        ·replace c13 := Bool.eq_false_iff.mpr c13
         subst c13
         have H1 : (if 0 ≤ (wrap64 (x5_1 + 1)) then (if (wrap64 (x5_1 + 1)) < (a0.size : Int) then ((strings_IndexByte.f (⟨#[48, 49, 50, 51, 52, 53, 54, 55, 56, 57, 97, 98, 99, 100, 101, 102]⟩ : ByteArray) (bt a0 (wrap64 (x5_1 + 1)))).bind fun t178 => (if 0 ≤ (wrap64 (x5_1 + 2)) then (if (wrap64 (x5_1 + 2)) < (a0.size : Int) then ((strings_IndexByte.f (⟨#[48, 49, 50, 51, 52, 53, 54, 55, 56, 57, 97, 98, 99, 100, 101, 102]⟩ : ByteArray) (bt a0 (wrap64 (x5_1 + 2)))).bind fun t179 => (if t178 < 0 then (qw.j2 kj9 a0 x4_1 x5_1 t178 t179 true) else (if t179 < 0 then (qw.j2 kj9 a0 x4_1 x5_1 t178 t179 true) else ((kc.f ((Go.bits .or .i64 (wrap64 (t178 * 16)) t179) % 256)).bind fun t180 => (qw.j2 kj9 a0 x4_1 x5_1 t178 t179 t180))))) else (none)) else (none))) else (none)) else (none)) = some (r1, r2) := by rw [if_neg (show ¬ (false = true) by decide)] at H; exact H
         clear H
         have H := H1
         clear H1
         obtain ⟨ji14, hji14⟩ : ∃ j_ : Int, (wrap64 (x5_1 + 1)) = j_ := ⟨_, rfl⟩
         replace H : (if 0 ≤ (ji14) then (if (ji14) < (a0.size : Int) then ((strings_IndexByte.f (⟨#[48, 49, 50, 51, 52, 53, 54, 55, 56, 57, 97, 98, 99, 100, 101, 102]⟩ : ByteArray) (bt a0 (ji14))).bind fun t178 => (if 0 ≤ (wrap64 (x5_1 + 2)) then (if (wrap64 (x5_1 + 2)) < (a0.size : Int) then ((strings_IndexByte.f (⟨#[48, 49, 50, 51, 52, 53, 54, 55, 56, 57, 97, 98, 99, 100, 101, 102]⟩ : ByteArray) (bt a0 (wrap64 (x5_1 + 2)))).bind fun t179 => (if t178 < 0 then (qw.j2 kj9 a0 x4_1 x5_1 t178 t179 true) else (if t179 < 0 then (qw.j2 kj9 a0 x4_1 x5_1 t178 t179 true) else ((kc.f ((Go.bits .or .i64 (wrap64 (t178 * 16)) t179) % 256)).bind fun t180 => (qw.j2 kj9 a0 x4_1 x5_1 t178 t179 t180))))) else (none)) else (none))) else (none)) else (none)) = some (r1, r2) := by first | (rw [hji14] at H; exact H) | (simp only [hji14] at H ⊢; exact H)
         have hji14w : (IntKind.i64.wrap (x5_1 + 1)) = ji14 := (qy _).trans hji14
         by_cases c15 : 0 ≤ (ji14)
         ·rw [if_pos c15] at H
          have c15b0 : decide (0 ≤ (ji14)) = true := decide_eq_true c15
          clear c15
          by_cases c16 : (ji14) < (a0.size : Int)
          ·rw [if_pos c16] at H
           have c16b0 : decide ((ji14) < (a0.size : Int)) = true := decide_eq_true c16
           clear c16
           replace H := Option.bind_eq_some_iff.mp H
           obtain ⟨t178, A180, H⟩ := H
           replace H : (if 0 ≤ (wrap64 (x5_1 + 2)) then (if (wrap64 (x5_1 + 2)) < (a0.size : Int) then ((strings_IndexByte.f (⟨#[48, 49, 50, 51, 52, 53, 54, 55, 56, 57, 97, 98, 99, 100, 101, 102]⟩ : ByteArray) (bt a0 (wrap64 (x5_1 + 2)))).bind fun t179 => (if t178 < 0 then (qw.j2 kj9 a0 x4_1 x5_1 t178 t179 true) else (if t179 < 0 then (qw.j2 kj9 a0 x4_1 x5_1 t178 t179 true) else ((kc.f ((Go.bits .or .i64 (wrap64 (t178 * 16)) t179) % 256)).bind fun t180 => (qw.j2 kj9 a0 x4_1 x5_1 t178 t179 t180))))) else (none)) else (none)) = some (r1, r2) := H
           have A18 := qa.mk A180
           clear A180
           obtain ⟨ji19, hji19⟩ : ∃ j_ : Int, (wrap64 (x5_1 + 2)) = j_ := ⟨_, rfl⟩
           replace H : (if 0 ≤ (ji19) then (if (ji19) < (a0.size : Int) then ((strings_IndexByte.f (⟨#[48, 49, 50, 51, 52, 53, 54, 55, 56, 57, 97, 98, 99, 100, 101, 102]⟩ : ByteArray) (bt a0 (ji19))).bind fun t179 => (if t178 < 0 then (qw.j2 kj9 a0 x4_1 x5_1 t178 t179 true) else (if t179 < 0 then (qw.j2 kj9 a0 x4_1 x5_1 t178 t179 true) else ((kc.f ((Go.bits .or .i64 (wrap64 (t178 * 16)) t179) % 256)).bind fun t180 => (qw.j2 kj9 a0 x4_1 x5_1 t178 t179 t180))))) else (none)) else (none)) = some (r1, r2) := by first | (rw [hji19] at H; exact H) | (simp only [hji19] at H ⊢; exact H)
           (try rw [hji19] at A18)
           have hji19w : (IntKind.i64.wrap (x5_1 + 2)) = ji19 := (qy _).trans hji19
           by_cases c20 : 0 ≤ (ji19)
           ·rw [if_pos c20] at H
            have c20b0 : decide (0 ≤ (ji19)) = true := decide_eq_true c20
            clear c20
            by_cases c21 : (ji19) < (a0.size : Int)
            ·rw [if_pos c21] at H
             have c21b0 : decide ((ji19) < (a0.size : Int)) = true := decide_eq_true c21
             clear c21
             replace H := Option.bind_eq_some_iff.mp H
             obtain ⟨t179, A230, H⟩ := H
             replace H : (if t178 < 0 then (qw.j2 kj9 a0 x4_1 x5_1 t178 t179 true) else (if t179 < 0 then (qw.j2 kj9 a0 x4_1 x5_1 t178 t179 true) else ((kc.f ((Go.bits .or .i64 (wrap64 (t178 * 16)) t179) % 256)).bind fun t180 => (qw.j2 kj9 a0 x4_1 x5_1 t178 t179 t180)))) = some (r1, r2) := H
             have A23 := qa.mk A230
             clear A230
             have HC24 := qa.mk H
             clear H
             have p17 : 0 ≤ ((ji14) : Int) := of_decide_eq_true (by first | (with_reducible assumption) | assumption)
             have q17 : (ji14) < (a0.size : Int) := of_decide_eq_true (by first | (with_reducible assumption) | assumption)
             have hx17 := bt_at a0 (ji14)
             replace p17 := eq_true p17
             replace q17 := eq_true q17
             go_upto_region 10 with (first | (go_at_call 39; (with_reducible refine (strings_IndexByte.calls (⟨#[48, 49, 50, 51, 52, 53, 54, 55, 56, 57, 97, 98, 99, 100, 101, 102]⟩ : ByteArray) (bt a0 (ji14)) t178 _ A18.out).mono ?_); rintro e w' ⟨rfl, ⟨nd, rfl⟩⟩; (try first | exact ⟨rfl, _, World.drewN_drewN _ _ _⟩ | exact ⟨rfl, _, Eq.trans (World.drewN_drewN _ _ _) (congrArg (World.drewN _) (Nat.add_assoc _ _ _))⟩); have p22 : 0 ≤ ((ji19) : Int) := of_decide_eq_true (by first | (with_reducible assumption) | assumption); have q22 : (ji19) < (a0.size : Int) := of_decide_eq_true (by first | (with_reducible assumption) | assumption); have hx22 := bt_at a0 (ji19); replace p22 := eq_true p22; replace q22 := eq_true q22) | (go_at_call 39; (with_reducible refine (strings_IndexByte.calls (⟨#[48, 49, 50, 51, 52, 53, 54, 55, 56, 57, 97, 98, 99, 100, 101, 102]⟩ : ByteArray) (bt a0 (ji19)) t179 _ A23.out).mono ?_); rintro e w' ⟨rfl, ⟨nd, rfl⟩⟩; (try first | exact ⟨rfl, _, World.drewN_drewN _ _ _⟩ | exact ⟨rfl, _, Eq.trans (World.drewN_drewN _ _ _) (congrArg (World.drewN _) (Nat.add_assoc _ _ _))⟩)))
             repeat (go_quiet (first | (go_at_call 39; (with_reducible refine (strings_IndexByte.calls (⟨#[48, 49, 50, 51, 52, 53, 54, 55, 56, 57, 97, 98, 99, 100, 101, 102]⟩ : ByteArray) (bt a0 (ji14)) t178 _ A18.out).mono ?_); rintro e w' ⟨rfl, ⟨nd, rfl⟩⟩; (try first | exact ⟨rfl, _, World.drewN_drewN _ _ _⟩ | exact ⟨rfl, _, Eq.trans (World.drewN_drewN _ _ _) (congrArg (World.drewN _) (Nat.add_assoc _ _ _))⟩); have p22 : 0 ≤ ((ji19) : Int) := of_decide_eq_true (by first | (with_reducible assumption) | assumption); have q22 : (ji19) < (a0.size : Int) := of_decide_eq_true (by first | (with_reducible assumption) | assumption); have hx22 := bt_at a0 (ji19); replace p22 := eq_true p22; replace q22 := eq_true q22) | (go_at_call 39; (with_reducible refine (strings_IndexByte.calls (⟨#[48, 49, 50, 51, 52, 53, 54, 55, 56, 57, 97, 98, 99, 100, 101, 102]⟩ : ByteArray) (bt a0 (ji19)) t179 _ A23.out).mono ?_); rintro e w' ⟨rfl, ⟨nd, rfl⟩⟩; (try first | exact ⟨rfl, _, World.drewN_drewN _ _ _⟩ | exact ⟨rfl, _, Eq.trans (World.drewN_drewN _ _ _) (congrArg (World.drewN _) (Nat.add_assoc _ _ _))⟩))); go_upto_region 10 with (first | (go_at_call 39; (with_reducible refine (strings_IndexByte.calls (⟨#[48, 49, 50, 51, 52, 53, 54, 55, 56, 57, 97, 98, 99, 100, 101, 102]⟩ : ByteArray) (bt a0 (ji14)) t178 _ A18.out).mono ?_); rintro e w' ⟨rfl, ⟨nd, rfl⟩⟩; (try first | exact ⟨rfl, _, World.drewN_drewN _ _ _⟩ | exact ⟨rfl, _, Eq.trans (World.drewN_drewN _ _ _) (congrArg (World.drewN _) (Nat.add_assoc _ _ _))⟩); have p22 : 0 ≤ ((ji19) : Int) := of_decide_eq_true (by first | (with_reducible assumption) | assumption); have q22 : (ji19) < (a0.size : Int) := of_decide_eq_true (by first | (with_reducible assumption) | assumption); have hx22 := bt_at a0 (ji19); replace p22 := eq_true p22; replace q22 := eq_true q22) | (go_at_call 39; (with_reducible refine (strings_IndexByte.calls (⟨#[48, 49, 50, 51, 52, 53, 54, 55, 56, 57, 97, 98, 99, 100, 101, 102]⟩ : ByteArray) (bt a0 (ji19)) t179 _ A23.out).mono ?_); rintro e w' ⟨rfl, ⟨nd, rfl⟩⟩; (try first | exact ⟨rfl, _, World.drewN_drewN _ _ _⟩ | exact ⟨rfl, _, Eq.trans (World.drewN_drewN _ _ _) (congrArg (World.drewN _) (Nat.add_assoc _ _ _))⟩))))
             (try simp only [Act.put, List.setIfInBounds_toArray, List.set_cons_zero, List.set_cons_succ])
             go_cut [58] (fun v58 wc => ∃ (kq : Nat) (x58_23 : Bool), v58 = .bool x58_23 ∧ qa (qw.j2 kq a0 x4_1 x5_1 t178 t179 x58_23 = some (r1, r2)) ∧ qa (kq ≤ kj9) ∧ qa (Kd.R (Kd.int .u8) 5 wc w.heap.size (fun _ => True) u4 x4_1) ∧ qa (Below w.heap.size w wc))
             case first =>
              have H := HC24.out
              clear HC24
              by_cases c25 : t178 < 0
              ·rw [if_pos c25] at H
               have c25b0 : decide (t178 < 0) = true := decide_eq_true c25
               clear c25
               (first | rw [c25b0] | (simp only [qy, qz]; rw [c25b0]) | skip)
               have H' := qa.mk H
               clear H
               go_wp2
               repeat (go_quiet (fail); try go_wp2)
               go_meet
               case rel => exact ⟨_, (true), (by first | rfl | (simp; done) | (simp [*]; done)), H', ⟨by have := HK1.out; have := HJ9.out; first | omega | exact Nat.le_refl _⟩, ⟨by (with_reducible repeat (first | apply Kd.zi | apply Kd.ze | apply Kd.zv)); exact HO_4.out⟩, ⟨by repeat (first | (with_reducible first | exact HB.out | apply qc | apply qb | apply qd) | exact HB.out)⟩⟩
              ·rw [if_neg c25] at H
               have c25b0 : decide (t178 < 0) = false := decide_eq_false c25
               clear c25
               (first | rw [c25b0] | (simp only [qy, qz]; rw [c25b0]) | skip)
               by_cases c26 : t179 < 0
               ·rw [if_pos c26] at H
                have c26b0 : decide (t179 < 0) = true := decide_eq_true c26
                clear c26
                have H' := qa.mk H
                clear H
                go_wp2
                repeat (go_quiet (fail); try go_wp2)
                go_meet
                case rel => exact ⟨_, (true), (by first | rfl | (simp; done) | (simp [*]; done)), H', ⟨by have := HK1.out; have := HJ9.out; first | omega | exact Nat.le_refl _⟩, ⟨by (with_reducible repeat (first | apply Kd.zi | apply Kd.ze | apply Kd.zv)); exact HO_4.out⟩, ⟨by repeat (first | (with_reducible first | exact HB.out | apply qc | apply qb | apply qd) | exact HB.out)⟩⟩
               ·rw [if_neg c26] at H
                have c26b0 : decide (t179 < 0) = false := decide_eq_false c26
                clear c26
                replace H := Option.bind_eq_some_iff.mp H
                obtain ⟨t180, A270, H⟩ := H
                replace H : (qw.j2 kj9 a0 x4_1 x5_1 t178 t179 t180) = some (r1, r2) := H
                have A27 := qa.mk A270
                clear A270
                have H' := qa.mk H
                clear H
                go_wp2_with (first | (go_at_call 59; (with_reducible refine (kc.calls ((Go.bits .or .i64 (wrap64 (t178 * 16)) t179) % 256) t180 _ A27.out).mono ?_); rintro e w' ⟨rfl, ⟨nd, rfl⟩⟩; (try first | exact ⟨rfl, _, World.drewN_drewN _ _ _⟩ | exact ⟨rfl, _, Eq.trans (World.drewN_drewN _ _ _) (congrArg (World.drewN _) (Nat.add_assoc _ _ _))⟩)))
                repeat (go_quiet (first | (go_at_call 59; (with_reducible refine (kc.calls ((Go.bits .or .i64 (wrap64 (t178 * 16)) t179) % 256) t180 _ A27.out).mono ?_); rintro e w' ⟨rfl, ⟨nd, rfl⟩⟩; (try first | exact ⟨rfl, _, World.drewN_drewN _ _ _⟩ | exact ⟨rfl, _, Eq.trans (World.drewN_drewN _ _ _) (congrArg (World.drewN _) (Nat.add_assoc _ _ _))⟩))); try go_wp2_with (first | (go_at_call 59; (with_reducible refine (kc.calls ((Go.bits .or .i64 (wrap64 (t178 * 16)) t179) % 256) t180 _ A27.out).mono ?_); rintro e w' ⟨rfl, ⟨nd, rfl⟩⟩; (try first | exact ⟨rfl, _, World.drewN_drewN _ _ _⟩ | exact ⟨rfl, _, Eq.trans (World.drewN_drewN _ _ _) (congrArg (World.drewN _) (Nat.add_assoc _ _ _))⟩))))
                go_meet
                case rel => exact ⟨_, (t180), (by first | rfl | (simp; done) | (simp [*]; done)), H', ⟨by have := HK1.out; have := HJ9.out; first | omega | exact Nat.le_refl _⟩, ⟨by (with_reducible repeat (first | apply Kd.zi | apply Kd.ze | apply Kd.zv)); exact HO_4.out⟩, ⟨by repeat (first | (with_reducible first | exact HB.out | apply qc | apply qb | apply qd) | exact HB.out)⟩⟩
             case rest =>
              clear HC24
              (try clear c1); (try clear p1); (try clear q1); (try clear hx1); (try clear c2); (try clear c2b0); (try clear p2); (try clear q2); (try clear hx2); (try clear c3); try clear c3b0
              (try clear c4); (try clear p4); (try clear q4); (try clear hx4); (try clear c6); (try clear p6); (try clear p7); (try clear q7); (try clear hx7); (try clear c8); try clear p11
              (try clear q11); (try clear hx11); (try clear c12); (try clear c12b0); (try clear c12b1); (try clear c13); (try clear c15); (try clear c15b0); (try clear c16); try clear c16b0
              (try clear p17); (try clear q17); (try clear hx17); (try clear c20); (try clear c20b0); (try clear c21); (try clear c21b0); (try clear p22); (try clear q22); try clear hx22
              (try clear c25); (try clear c25b0); (try clear c26); (try clear c26b0); (try clear p1); (try clear p11); (try clear p17); (try clear p2); (try clear p22); (try clear p4); try clear p6
              (try clear p7); (try clear q1); (try clear q11); (try clear q17); (try clear q22); (try clear q4); try clear q7
              obtain ⟨kq, x58_23, rfl, HA, HJ23, HO_4, HB⟩ := hcut
              cases kq with
              | zero => exact absurd HA.out (by simp [qw.j2])
              | succ kj23 =>
               have H := HA.out
               clear HA
               simp only [qw.j2] at H
               by_cases c28 : x58_23 = true
               ·subst c28
                have H1 : (some ((⟨#[]⟩ : ByteArray), false)) = some (r1, r2) := by rw [if_pos rfl] at H; exact H
                clear H
                have H := H1
                clear H1
                simp only [Option.some.injEq, Prod.mk.injEq] at H
                obtain ⟨rfl, rfl⟩ := H
                go_wp2
                repeat (go_quiet (fail); try go_wp2)
                go_ret2
                exact ⟨by first | rfl | (simp [qq, qp] <;> rfl) | (simp only [← hji14, ← hji19]; first | rfl | (simp [qq, qp] <;> rfl)) | (simp [*, qq, qp] <;> rfl), by repeat (first | (with_reducible first | exact HB.out | apply qc | apply qb | apply qd) | exact HB.out)⟩
               ·replace c28 := Bool.eq_false_iff.mpr c28
                subst c28
                have H1 : (if x4_1.length < 140737488355328 then (qw.l0 kj23 a0 (x4_1 ++ [(Go.bits .or .i64 (wrap64 (t178 * 16)) t179) % 256]) (wrap64 ((wrap64 (x5_1 + 2)) + 1))) else (none)) = some (r1, r2) := by rw [if_neg (show ¬ (false = true) by decide)] at H; exact H
                clear H
                have H := H1
                clear H1
                by_cases c29 : x4_1.length < 140737488355328
                ·rw [if_pos c29] at H
                 have LMc29 := qa.mk c29
                 clear c29
                 obtain ⟨y181, hy181⟩ : ∃ y_ : List Int, y_ = (x4_1 ++ [(Go.bits .or .i64 (wrap64 (t178 * 16)) t179) % 256]) := ⟨_, rfl⟩
                 replace H : (qw.l0 kj23 a0 y181 (wrap64 ((wrap64 (x5_1 + 2)) + 1))) = some (r1, r2) := by first | (rw [hy181]; with_reducible exact H) | (have H2_ := (Option.bind_some _ _).symm.trans H; rw [hy181]; with_reducible exact H2_) | (have H2_ := (Option.bind_some _ _).symm.trans H; with_reducible exact H2_) | with_reducible exact H | (rw [hy181]; exact H) | exact H
                 have Ny181 := qa.mk hy181
                 clear hy181
                 have H' := qa.mk H
                 clear H
                 go_wp2_with (first | ((with_reducible refine xy (b := .append) (xs := #[.tmp 59, .tmp 65]) rfl ?_); (try (refine xl (by rfl) ?_; dsimp only)); at_builtin; refine Kd.kr (Kd.int .u8) (w0 := w) w.heap.size rfl (.tmp 59) (.tmp 65) 46 5 (.int .u8 0) 1 rfl Tryd.underlying46 info5 rfl (by decide) (by omega) u4 x4_1 ((Go.bits .or .i64 (wrap64 (t178 * 16)) t179) % 256) [.int .u8 ((Go.bits .or .i64 (wrap64 (t178 * 16)) t179) % 256)] (fun _ => True) (fun _ => False) rfl rfl ?aP (fun _ hk => hk.elim) ?aF ?aO ?aB ?aS ?aL ?_; (case aP => exact rfl); (case aB => exact (by repeat (first | (with_reducible first | exact HB.out | apply qc | apply qb | apply qd) | exact HB.out))); (case aF => exact (fun _ _ => trivial)); (case aO => exact (by (with_reducible repeat (first | apply Kd.zi | apply Kd.ze | apply Kd.zv)); exact HO_4.out)); (case aS => exact (qm (by repeat (first | (with_reducible first | exact HB.out | apply qc | apply qb | apply qd) | exact HB.out)))); (case aL => have := LMc29.out; omega); intro v182 w30 ho hb hg hat; rw [← Ny181.out] at ho; have n0_ := qa.mk (hb); have n1_ := qa.mk (ho); clear HB; clear HO_4; have HB := n0_; have HO183 := n1_; clear n0_ n1_; clear ho hb hg hat))
                 repeat (go_quiet (first | ((with_reducible refine xy (b := .append) (xs := #[.tmp 59, .tmp 65]) rfl ?_); (try (refine xl (by rfl) ?_; dsimp only)); at_builtin; refine Kd.kr (Kd.int .u8) (w0 := w) w.heap.size rfl (.tmp 59) (.tmp 65) 46 5 (.int .u8 0) 1 rfl Tryd.underlying46 info5 rfl (by decide) (by omega) u4 x4_1 ((Go.bits .or .i64 (wrap64 (t178 * 16)) t179) % 256) [.int .u8 ((Go.bits .or .i64 (wrap64 (t178 * 16)) t179) % 256)] (fun _ => True) (fun _ => False) rfl rfl ?aP (fun _ hk => hk.elim) ?aF ?aO ?aB ?aS ?aL ?_; (case aP => exact rfl); (case aB => exact (by repeat (first | (with_reducible first | exact HB.out | apply qc | apply qb | apply qd) | exact HB.out))); (case aF => exact (fun _ _ => trivial)); (case aO => exact (by (with_reducible repeat (first | apply Kd.zi | apply Kd.ze | apply Kd.zv)); exact HO_4.out)); (case aS => exact (qm (by repeat (first | (with_reducible first | exact HB.out | apply qc | apply qb | apply qd) | exact HB.out)))); (case aL => have := LMc29.out; omega); intro v182 w30 ho hb hg hat; rw [← Ny181.out] at ho; have n0_ := qa.mk (hb); have n1_ := qa.mk (ho); clear HB; clear HO_4; have HB := n0_; have HO183 := n1_; clear n0_ n1_; clear ho hb hg hat)); try go_wp2_with (first | ((with_reducible refine xy (b := .append) (xs := #[.tmp 59, .tmp 65]) rfl ?_); (try (refine xl (by rfl) ?_; dsimp only)); at_builtin; refine Kd.kr (Kd.int .u8) (w0 := w) w.heap.size rfl (.tmp 59) (.tmp 65) 46 5 (.int .u8 0) 1 rfl Tryd.underlying46 info5 rfl (by decide) (by omega) u4 x4_1 ((Go.bits .or .i64 (wrap64 (t178 * 16)) t179) % 256) [.int .u8 ((Go.bits .or .i64 (wrap64 (t178 * 16)) t179) % 256)] (fun _ => True) (fun _ => False) rfl rfl ?aP (fun _ hk => hk.elim) ?aF ?aO ?aB ?aS ?aL ?_; (case aP => exact rfl); (case aB => exact (by repeat (first | (with_reducible first | exact HB.out | apply qc | apply qb | apply qd) | exact HB.out))); (case aF => exact (fun _ _ => trivial)); (case aO => exact (by (with_reducible repeat (first | apply Kd.zi | apply Kd.ze | apply Kd.zv)); exact HO_4.out)); (case aS => exact (qm (by repeat (first | (with_reducible first | exact HB.out | apply qc | apply qb | apply qd) | exact HB.out)))); (case aL => have := LMc29.out; omega); intro v182 w30 ho hb hg hat; rw [← Ny181.out] at ho; have n0_ := qa.mk (hb); have n1_ := qa.mk (ho); clear HB; clear HO_4; have HB := n0_; have HO183 := n1_; clear n0_ n1_; clear ho hb hg hat)))
                 go_roundg kj23
                 case measure => have := HK1.out; have := HJ9.out; have := HJ23.out; omega
                 case rel => exact ⟨(y181), (wrap64 ((wrap64 (x5_1 + 2)) + 1)), (by first | rfl | (simp; done) | (simp [*]; done)), H', ⟨by have := HK1.out; have := HJ9.out; have := HJ23.out; omega⟩, ⟨by (with_reducible repeat (first | apply Kd.zi | apply Kd.ze | apply Kd.zv)); exact HO183.out⟩, ⟨by repeat (first | (with_reducible first | exact HB.out | apply qc | apply qb | apply qd) | exact HB.out)⟩⟩
                ·rw [if_neg c29] at H
                 exact absurd H (by simp)
            ·rw [if_neg c21] at H
             exact absurd H (by simp)
           ·rw [if_neg c20] at H
            exact absurd H (by simp)
          ·rw [if_neg c16] at H
           exact absurd H (by simp)
         ·rw [if_neg c15] at H
          exact absurd H (by simp)
    ·rw [if_neg c3] at H
     exact absurd H (by simp)
   ·rw [if_neg c2] at H
    have c2b0 : decide (x5_1 < (a0.size : Int)) = false := decide_eq_false c2
    clear c2
    simp only [Option.some.injEq, Prod.mk.injEq] at H
    obtain ⟨rfl, rfl⟩ := H
    have hcv31 := own_string (P := Tryd.prog) Tryd.underlying46 Tryd.underlying5 Tryd.underlying9 (Kd.own_of_R HO_4.out)
    go_wp2
    repeat (go_quiet (fail); try go_wp2)
    go_ret2
    exact ⟨by first | rfl | (simp [qq, qp] <;> rfl) | (simp [*, qq, qp] <;> rfl), by repeat (first | (with_reducible first | exact HB.out | apply qc | apply qb | apply qd) | exact HB.out)⟩
end Go.Proofs.YtjhlinifnjoefaaDoor.C
end
section
namespace Go.Proofs.YtjhlinifnjoefaaDoor.C
open Go.RowKit Go.Proofs.YtjhlinifnjoefaaDoorW.PrintWords Go.Proofs.YtjhlinifnjoefaaDoorW.PrintLast Go.Proofs.YtjhlinifnjoefaaDoorW.PrintMore
attribute [local go_sem] xr xp xw xx xf xe xq xo
set_option linter.unusedVariables false
set_option linter.unusedSimpArgs false
mutual
def ql.j1 : Nat → ByteArray → ByteArray → Option (ByteArray × Int × ByteArray × Bool)
 | 0, _, _ => none
 | k + 1, x4, x5 => (qw.f k x5).bind fun bt193 => (if bt193.2 = true then ((xh.f k x4).bind fun t195 => (ql.j2 k x4 bt193.1 (!t195))) else (ql.j2 k x4 bt193.1 true))
def ql.j2 : Nat → ByteArray → ByteArray → Bool → Option (ByteArray × Int × ByteArray × Bool)
 | 0, _, _, _ => none
 | k + 1, x4, x9, x44 => if x44 = true then (some ((⟨#[]⟩ : ByteArray), 0, (⟨#[]⟩ : ByteArray), false)) else (if x4.toList = ([48, 46, 57, 46, 50, 51, 52, 50, 46, 49, 57, 50, 48, 48, 51, 48, 48, 46, 49, 48, 48, 46, 49, 46, 50, 53] : List UInt8) then (ql.j3 k x4 x9 12 true) else (ql.j3 k x4 x9 12 (x4.toList == ([49, 46, 50, 46, 56, 52, 48, 46, 49, 49, 51, 53, 52, 57, 46, 49, 46, 57, 46, 49] : List UInt8))))
def ql.j3 : Nat → ByteArray → ByteArray → Int → Bool → Option (ByteArray × Int × ByteArray × Bool)
 | 0, _, _, _, _ => none
 | k + 1, x4, x9, x10, x46 => if x46 = true then (some (x4, 22, x9, true)) else ((k6.f 19 x9).bind fun t196 => (if t196 = true then (some (x4, 19, x9, true)) else (some (x4, x10, x9, true))))
def ql.l0 : Nat → ByteArray → ByteArray → List (S75) → Int → Int → Option (ByteArray × Int × ByteArray × Bool)
 | 0, _, _, _, _, _ => none
 | k + 1, x4, x5, x20, x21, x22 => if x22 < x21 then (if 0 ≤ x22 then (if x22 < (x20.length : Int) then (if ((rd_T75 x20 x22).f0).toList = x4.toList then (ql.j1 k ((rd_T75 x20 x22).f1) x5) else (ql.l0 k x4 x5 x20 x21 (wrap64 (x22 + 1)))) else (none)) else (none)) else (ql.j1 k x4 x5)
end
def ql.f (k : Nat) (a0 : ByteArray) : Option (ByteArray × Int × ByteArray × Bool) := (strings_Cut.f a0 (⟨#[61]⟩ : ByteArray)).bind fun bt185 => (if bt185.2.2 = true then ((jd.f).bind fun t188 => (ql.l0 k bt185.1 bt185.2.1 t188 (t188.length : Int) 0)) else (some ((⟨#[]⟩ : ByteArray), 0, (⟨#[]⟩ : ByteArray), false)))
theorem ql.xu : ∀ k, (∀ y0 y1, LeO (ql.j1 k y0 y1) (ql.j1 (k + 1) y0 y1)) ∧ (∀ y0 y1 y2, LeO (ql.j2 k y0 y1 y2) (ql.j2 (k + 1) y0 y1 y2)) ∧ (∀ y0 y1 y2 y3, LeO (ql.j3 k y0 y1 y2 y3) (ql.j3 (k + 1) y0 y1 y2 y3)) ∧ (∀ y0 y1 y2 y3 y4, LeO (ql.l0 k y0 y1 y2 y3 y4) (ql.l0 (k + 1) y0 y1 y2 y3 y4))
 | 0 => ⟨fun _ _ r h => by simp [ql.j1] at h, fun _ _ _ r h => by simp [ql.j2] at h, fun _ _ _ _ r h => by simp [ql.j3] at h, fun _ _ _ _ _ r h => by simp [ql.l0] at h⟩
 | k + 1 => by
  obtain ⟨ih0, ih1, ih2, ih3⟩ := ql.xu k
  refine ⟨?_, ?_, ?_, ?_⟩
  ·intro y0 y1
   unfold ql.j1
   repeat' first
   | (with_reducible exact ih0 _ _)
   | (with_reducible exact ih1 _ _ _)
   | (with_reducible exact ih2 _ _ _ _)
   | (with_reducible exact ih3 _ _ _ _ _)
   | (with_reducible exact xh.mono _ _)
   | (with_reducible exact qw.mono _ _)
   | (with_reducible exact LeO.refl _)
   | (with_reducible exact LeO.none _)
   | (with_reducible refine LeO.ite ?_ ?_)
   | (with_reducible refine LeO.bind ?_ (fun _ => ?_))
  ·intro y0 y1 y2
   unfold ql.j2
   repeat' first
   | (with_reducible exact ih0 _ _)
   | (with_reducible exact ih1 _ _ _)
   | (with_reducible exact ih2 _ _ _ _)
   | (with_reducible exact ih3 _ _ _ _ _)
   | (with_reducible exact xh.mono _ _)
   | (with_reducible exact qw.mono _ _)
   | (with_reducible exact LeO.refl _)
   | (with_reducible exact LeO.none _)
   | (with_reducible refine LeO.ite ?_ ?_)
   | (with_reducible refine LeO.bind ?_ (fun _ => ?_))
  ·intro y0 y1 y2 y3
   unfold ql.j3
   repeat' first
   | (with_reducible exact ih0 _ _)
   | (with_reducible exact ih1 _ _ _)
   | (with_reducible exact ih2 _ _ _ _)
   | (with_reducible exact ih3 _ _ _ _ _)
   | (with_reducible exact xh.mono _ _)
   | (with_reducible exact qw.mono _ _)
   | (with_reducible exact LeO.refl _)
   | (with_reducible exact LeO.none _)
   | (with_reducible refine LeO.ite ?_ ?_)
   | (with_reducible refine LeO.bind ?_ (fun _ => ?_))
  ·intro y0 y1 y2 y3 y4
   unfold ql.l0
   repeat' first
   | (with_reducible exact ih0 _ _)
   | (with_reducible exact ih1 _ _ _)
   | (with_reducible exact ih2 _ _ _ _)
   | (with_reducible exact ih3 _ _ _ _ _)
   | (with_reducible exact xh.mono _ _)
   | (with_reducible exact qw.mono _ _)
   | (with_reducible exact LeO.refl _)
   | (with_reducible exact LeO.none _)
   | (with_reducible refine LeO.ite ?_ ?_)
   | (with_reducible refine LeO.bind ?_ (fun _ => ?_))
theorem ql.mono : ∀ a0 k, LeO (ql.f k a0) (ql.f (k + 1) a0) := by
 intro a0 k
 obtain ⟨ih0, ih1, ih2, ih3⟩ := ql.xu k
 unfold ql.f
 repeat' first
   | (with_reducible exact ih0 _ _)
   | (with_reducible exact ih1 _ _ _)
   | (with_reducible exact ih2 _ _ _ _)
   | (with_reducible exact ih3 _ _ _ _ _)
   | (with_reducible exact xh.mono _ _)
   | (with_reducible exact qw.mono _ _)
   | (with_reducible exact LeO.refl _)
   | (with_reducible exact LeO.none _)
   | (with_reducible refine LeO.ite ?_ ?_)
   | (with_reducible refine LeO.bind ?_ (fun _ => ?_))
set_option maxHeartbeats 8000000 in
set_option maxRecDepth 100000 in
theorem ql.calls (k : Nat) (a0 : ByteArray) (r1 : ByteArray) (r2 : Int) (r3 : ByteArray) (r4 : Bool) (w : World) (hG : LibHeld w) (h : ql.f k a0 = some (r1, r2, r3, r4)) :
  Calls Tryd.prog 31 #[.string a0] w fun e w' => e = .returned (.tuple #[.agg #[.string r1, .int .i64 r2, .string r3], .bool r4]) ∧ Below w.heap.size w w' := by
 have hu26 := Tryd.underlying26
 have hu75 := Tryd.underlying75
 have HG := qa.mk hG
 clear hG
 have HB := qa.mk (Below.refl w.heap.size w)
 have H : ((strings_Cut.f a0 (⟨#[61]⟩ : ByteArray)).bind fun bt185 => (if bt185.2.2 = true then ((jd.f).bind fun t188 => (ql.l0 k bt185.1 bt185.2.1 t188 (t188.length : Int) 0)) else (some ((⟨#[]⟩ : ByteArray), 0, (⟨#[]⟩ : ByteArray), false)))) = some (r1, r2, r3, r4) := h
 clear h
 replace H := Option.bind_eq_some_iff.mp H
 obtain ⟨⟨t185, t186, t187⟩, A20, H⟩ := H
 replace H : (if t187 = true then ((jd.f).bind fun t188 => (ql.l0 k t185 t186 t188 (t188.length : Int) 0)) else (some ((⟨#[]⟩ : ByteArray), 0, (⟨#[]⟩ : ByteArray), false))) = some (r1, r2, r3, r4) := H
 have A2 := qa.mk A20
 clear A20
 by_cases c3 : t187 = true
 ·subst c3
  have H1 : ((jd.f).bind fun t188 => (ql.l0 k t185 t186 t188 (t188.length : Int) 0)) = some (r1, r2, r3, r4) := by rw [if_pos rfl] at H; exact H
  clear H
  have H := H1
  clear H1
  replace H := Option.bind_eq_some_iff.mp H
  obtain ⟨t188, A40, H⟩ := H
  replace H : (ql.l0 k t185 t186 t188 (t188.length : Int) 0) = some (r1, r2, r3, r4) := H
  have A4 := qa.mk A40
  clear A40
  have HC5 := qa.mk H
  clear H
  go_enter Tryd.func31, Tryd.ntmps31
  go_upto_block 0 with (first | ((with_reducible refine zd (N := 2) rfl ?_); refine zg ?hg (N := 2) ?hd (cs := #[.string (⟨#[]⟩ : ByteArray), .int .i64 0, .string (⟨#[]⟩ : ByteArray)]) (t := 26) ?hr ?_; (case hd => rfl); (case hg => rfl); (case hr => first | (go_simp; done) | (go_simp; rfl)); intro gb184 hg w6 hbox hb; have n0_ := qa.mk (qj (by repeat (first | (with_reducible first | exact HB.out | apply qc | apply qb | apply qd) | exact HB.out)) hb); have n1_ := qa.mk (hbox); have n2_ := qa.mk ((by rw [hg]; exact (qm (by repeat (first | (with_reducible first | exact HB.out | apply qc | apply qb | apply qd) | exact HB.out))) : w.heap.size ≤ gb184)); have n3_ := qa.mk ((by rw [hg]; exact (qm (by repeat (first | (with_reducible first | exact HB.out | apply qc | apply qb | apply qd) | exact HB.out))) : w.heap.size ≤ gb184)); clear HB; have HB := n0_; have BK184 := n1_; have GW184 := n2_; have GE184 := n3_; clear n0_ n1_ n2_ n3_; clear hb hbox hg) | ((with_reducible refine zk (f := 46) rfl ?_); refine xv (some 13) rfl rfl Tryd.func46 (by kernel_rfl) rfl #[.string a0, .string (⟨#[61]⟩ : ByteArray)] rfl (by (try simp only [List.map_toArray, List.map_cons, List.map_nil]); first | done | rfl | (simp only [List.length_drop, List.length_take]; rfl)) ?_; (with_reducible refine (strings_Cut.calls a0 (⟨#[61]⟩ : ByteArray) t185 t186 true _ ?side1 A2.out).mono ?_); (case side1 => exact LibHeld.below HG.out (by repeat (first | (with_reducible first | exact HB.out | apply qc | apply qb | apply qd | refine qe ?_ GE184.out) | exact HB.out))); rintro e w7 ⟨rfl, hb⟩; refine ⟨_, rfl, ?_⟩; have n0_ := qa.mk (qt (g := gb184) (o := .cells #[.string (⟨#[]⟩ : ByteArray), .int .i64 0, .string (⟨#[]⟩ : ByteArray)] 26 (0, 0)) (by (with_reducible repeat (first | refine qg ?_ _ | refine qh ?_ | refine qf ?_ _)); exact BK184.out) hb); have n1_ := qa.mk (qj (by repeat (first | (with_reducible first | exact HB.out | apply qc | apply qb | apply qd | refine qe ?_ GE184.out) | exact HB.out)) hb); clear BK184; clear HB; have BK184 := n0_; have HB := n1_; clear n0_ n1_; (try clear hb); (try clear hb2); (try clear hk); (try clear hi)) | ((with_reducible refine zk (f := 47) rfl ?_); refine xv (some 20) rfl rfl Tryd.func47 (by kernel_rfl) rfl #[] rfl (by (try simp only [List.map_toArray, List.map_cons, List.map_nil]); first | done | rfl | (simp only [List.length_drop, List.length_take]; rfl)) ?_; (with_reducible refine (jd.calls  t188 _ A4.out).mono ?_); rintro e w8 ⟨v189, rfl, ho0, hb⟩; refine ⟨_, rfl, ?_⟩; have n0_ := qa.mk (Kd.R_lower ho0 (qm (by repeat (first | (with_reducible first | exact HB.out | apply qc | apply qb | apply qd | refine qe ?_ GE184.out) | exact HB.out)))); have n1_ := qa.mk (qt (g := gb184) (o := .cells #[.string (⟨#[]⟩ : ByteArray), .int .i64 0, .string (⟨#[]⟩ : ByteArray)] 26 (0, 0)) (by (with_reducible repeat (first | refine qg ?_ _ | refine qh ?_ | refine qf ?_ _)); exact BK184.out) hb); have n2_ := qa.mk (qj (by repeat (first | (with_reducible first | exact HB.out | apply qc | apply qb | apply qd | refine qe ?_ GE184.out) | exact HB.out)) hb); clear BK184; clear HB; have HO190 := n0_; have BK184 := n1_; have HB := n2_; clear n0_ n1_ n2_; (try clear hb); (try clear hb2); (try clear hk); (try clear hi); (try clear ho0); obtain ⟨Ao9, co9, eo9⟩ := Kd.ko HO190.out; subst eo9))
  (try simp only [Act.put, List.setIfInBounds_toArray, List.set_cons_zero, List.set_cons_succ])
  go_cut [4] (fun v4 wc => ∃ (kq : Nat) (x4_4 : ByteArray), v4 = .string x4_4 ∧ qa (ql.j1 kq x4_4 t186 = some (r1, r2, r3, r4)) ∧ qa (kq ≤ k) ∧ qa (wc.heap[gb184]? = some (.cells #[.string (⟨#[]⟩ : ByteArray), .int .i64 0, .string (⟨#[]⟩ : ByteArray)] 26 (0, 0))) ∧ qa (Below w.heap.size w wc))
  case first =>
   have H := HC5.out
   clear HC5
   have H' := qa.mk H
   clear H
   go_wp2
   go_loopg [4, 22] k (fun kq v4 v22 w' => ∃ (x4_1 : ByteArray) (x22_1 : Int), v4 = .string x4_1 ∧ v22 = .int .i64 x22_1 ∧ qa (ql.l0 kq x4_1 t186 t188 (t188.length : Int) x22_1 = some (r1, r2, r3, r4)) ∧ qa (kq ≤ k) ∧ qa (Kd.R k75 75 w' w.heap.size (fun _ => True) (.slice Ao9 t188.length co9) t188) ∧ qa (w'.heap[gb184]? = some (.cells #[.string (⟨#[]⟩ : ByteArray), .int .i64 0, .string (⟨#[]⟩ : ByteArray)] 26 (0, 0))) ∧ qa (Below w.heap.size w w'))
   case atStart => exact ⟨(t185), (0), (by first | rfl | (simp; done) | (simp [*]; done)), (by first | rfl | (simp; done) | (simp [*]; done)), H', ⟨Nat.le_refl _⟩, ⟨by (with_reducible repeat (first | apply Kd.zi | apply Kd.ze | apply Kd.zv)); exact HO190.out⟩, ⟨by (with_reducible repeat (first | refine qg ?_ _ | refine qh ?_ | refine qf ?_ _)); exact BK184.out⟩, ⟨by repeat (first | (with_reducible first | exact HB.out | apply qc | apply qb | apply qd | refine qe ?_ GE184.out) | exact HB.out)⟩⟩
   case round =>
    clear H'
    (try clear p2); (try clear c3); try clear c4
    obtain ⟨x4_1, x22_1, rfl, rfl, HA, HK1, HO_20, BK184, HB⟩ := hrel
    cases gk with
    | zero => exact absurd HA.out (by simp [ql.l0])
    | succ k1 =>
     have H := HA.out
     clear HA
     simp only [ql.l0] at H
     by_cases c10 : x22_1 < (t188.length : Int)
     ·rw [if_pos c10] at H
      have c10b0 : decide (x22_1 < (t188.length : Int)) = true := decide_eq_true c10
      clear c10
      (first | rw [c10b0] | (simp only [qy, qz]; rw [c10b0]) | skip)
      by_cases c11 : 0 ≤ x22_1
      ·rw [if_pos c11] at H
       have c11b0 : decide (0 ≤ x22_1) = true := decide_eq_true c11
       clear c11
       by_cases c12 : x22_1 < (t188.length : Int)
       ·rw [if_pos c12] at H
        have c12b0 : decide (x22_1 < (t188.length : Int)) = true := decide_eq_true c12
        clear c12
        by_cases c13 : ((rd_T75 t188 x22_1).f0).toList = x4_1.toList
        ·rw [if_pos c13] at H
         have c13b0 : (((rd_T75 t188 x22_1).f0).toList == x4_1.toList) = true := beq_iff_eq.mpr c13
         have c13b1 : (((rd_T75 t188 x22_1).f0).toList != x4_1.toList) = false := bne_eq_false_iff_eq.mpr c13
         clear c13
         have H' := qa.mk H
         clear H
         have p191 : 0 ≤ (x22_1 : Int) := of_decide_eq_true (by first | (with_reducible assumption) | assumption)
         have q191 : x22_1 < (t188.length : Int) := of_decide_eq_true (by first | (with_reducible assumption) | assumption)
         obtain ⟨ad191, e191, hx191_0, hx191_1⟩ := at_T75 (Kd.kg HO_20.out).2.2 x22_1 p191 q191
         cases e191
         replace p191 := eq_true p191
         replace q191 := eq_true q191
         go_wp2_with (first | ((with_reducible refine zd (N := 8) rfl ?_); refine zg ?hg (N := 8) ?hd (cs := #[.string (⟨#[]⟩ : ByteArray), .string (⟨#[]⟩ : ByteArray)]) (t := 75) ?hr ?_; (case hd => rfl); (case hg => rfl); (case hr => first | (go_simp; done) | (go_simp; rfl)); intro gb192 hg w14 hbox hb; have n0_ := qa.mk (Kd.km (Kd.R_elderB (by (with_reducible repeat (first | apply Kd.zi | apply Kd.ze | apply Kd.zv)); exact HO_20.out) gb192 (Nat.le_of_eq hg.symm)) hb); have n1_ := qa.mk (qt (g := gb184) (o := .cells #[.string (⟨#[]⟩ : ByteArray), .int .i64 0, .string (⟨#[]⟩ : ByteArray)] 26 (0, 0)) (by (with_reducible repeat (first | refine qg ?_ _ | refine qh ?_ | refine qf ?_ _)); exact BK184.out) hb); have n2_ := qa.mk (qj (by repeat (first | (with_reducible first | exact HB.out | apply qc | apply qb | apply qd | refine qe ?_ GE184.out) | exact HB.out)) hb); have n3_ := qa.mk (hbox); have n4_ := qa.mk ((by rw [hg]; exact (qm (by repeat (first | (with_reducible first | exact HB.out | apply qc | apply qb | apply qd | refine qe ?_ GE184.out) | exact HB.out))) : w.heap.size ≤ gb192)); have n5_ := qa.mk ((by rw [hg]; exact (qm (by repeat (first | (with_reducible first | exact HB.out | apply qc | apply qb | apply qd | refine qe ?_ GE184.out) | exact HB.out))) : w.heap.size ≤ gb192)); have n6_ := qa.mk ((by rw [hg]; exact Nat.ne_of_lt (zl (g := gb184) (o := .cells #[.string (⟨#[]⟩ : ByteArray), .int .i64 0, .string (⟨#[]⟩ : ByteArray)] 26 (0, 0)) (by (with_reducible repeat (first | refine qg ?_ _ | refine qh ?_ | refine qf ?_ _)); exact BK184.out)) : gb184 ≠ gb192)); have n7_ := qa.mk ((by rw [hg]; exact Nat.ne_of_gt (zl (g := gb184) (o := .cells #[.string (⟨#[]⟩ : ByteArray), .int .i64 0, .string (⟨#[]⟩ : ByteArray)] 26 (0, 0)) (by (with_reducible repeat (first | refine qg ?_ _ | refine qh ?_ | refine qf ?_ _)); exact BK184.out)) : gb192 ≠ gb184)); clear HO_20; clear BK184; clear HB; have HO_20 := n0_; have BK184 := n1_; have HB := n2_; have BK192 := n3_; have GW192 := n4_; have GE192 := n5_; have NB184_192 := n6_; have NB192_184 := n7_; clear n0_ n1_ n2_ n3_ n4_ n5_ n6_ n7_; clear hb hbox hg; have hnb15 := NB192_184.out; have hnc15 := NB184_192.out; have hcz16_0 : w14.cell? ⟨gb192, 0, none⟩ = some (.string (⟨#[]⟩ : ByteArray)) := (qi BK192.out 0).trans rfl; have hcz16_1 : w14.cell? ⟨gb192, 1, none⟩ = some (.string (⟨#[]⟩ : ByteArray)) := (qi BK192.out 1).trans rfl; have hfz16_0 := qk BK192.out 0; have hfz16_1 := qk BK192.out 1))
         go_meet
         case rel => exact ⟨_, ((rd_T75 t188 x22_1).f1), (by first | rfl | (simp; done) | (simp [*]; done)), H', ⟨by have := HK1.out; first | omega | exact Nat.le_refl _⟩, ⟨by (with_reducible repeat (first | refine qg ?_ _ | refine qh ?_ | refine qf ?_ _)); refine xd ?_ NB184_192.out _; (with_reducible repeat (first | refine qg ?_ _ | refine qh ?_ | refine qf ?_ _)); refine xd ?_ NB184_192.out _; (with_reducible repeat (first | refine qg ?_ _ | refine qh ?_ | refine qf ?_ _)); exact BK184.out⟩, ⟨by repeat (first | (with_reducible first | exact HB.out | apply qc | apply qb | apply qd | refine qe ?_ GE184.out | refine qe ?_ GE192.out) | exact HB.out)⟩⟩
        ·rw [if_neg c13] at H
         have c13b0 : (((rd_T75 t188 x22_1).f0).toList == x4_1.toList) = false := beq_eq_false_iff_ne.mpr c13
         have c13b1 : (((rd_T75 t188 x22_1).f0).toList != x4_1.toList) = true := bne_iff_ne.mpr c13
         have H' := qa.mk H
         clear H
         have p191 : 0 ≤ (x22_1 : Int) := of_decide_eq_true (by first | (with_reducible assumption) | assumption)
         have q191 : x22_1 < (t188.length : Int) := of_decide_eq_true (by first | (with_reducible assumption) | assumption)
         obtain ⟨ad191, e191, hx191_0, hx191_1⟩ := at_T75 (Kd.kg HO_20.out).2.2 x22_1 p191 q191
         cases e191
         replace p191 := eq_true p191
         replace q191 := eq_true q191
         go_wp2_with (first | ((with_reducible refine zd (N := 8) rfl ?_); refine zg ?hg (N := 8) ?hd (cs := #[.string (⟨#[]⟩ : ByteArray), .string (⟨#[]⟩ : ByteArray)]) (t := 75) ?hr ?_; (case hd => rfl); (case hg => rfl); (case hr => first | (go_simp; done) | (go_simp; rfl)); intro gb192 hg w17 hbox hb; have n0_ := qa.mk (Kd.km (Kd.R_elderB (by (with_reducible repeat (first | apply Kd.zi | apply Kd.ze | apply Kd.zv)); exact HO_20.out) gb192 (Nat.le_of_eq hg.symm)) hb); have n1_ := qa.mk (qt (g := gb184) (o := .cells #[.string (⟨#[]⟩ : ByteArray), .int .i64 0, .string (⟨#[]⟩ : ByteArray)] 26 (0, 0)) (by (with_reducible repeat (first | refine qg ?_ _ | refine qh ?_ | refine qf ?_ _)); exact BK184.out) hb); have n2_ := qa.mk (qj (by repeat (first | (with_reducible first | exact HB.out | apply qc | apply qb | apply qd | refine qe ?_ GE184.out) | exact HB.out)) hb); have n3_ := qa.mk (hbox); have n4_ := qa.mk ((by rw [hg]; exact (qm (by repeat (first | (with_reducible first | exact HB.out | apply qc | apply qb | apply qd | refine qe ?_ GE184.out) | exact HB.out))) : w.heap.size ≤ gb192)); have n5_ := qa.mk ((by rw [hg]; exact (qm (by repeat (first | (with_reducible first | exact HB.out | apply qc | apply qb | apply qd | refine qe ?_ GE184.out) | exact HB.out))) : w.heap.size ≤ gb192)); have n6_ := qa.mk ((by rw [hg]; exact Nat.ne_of_lt (zl (g := gb184) (o := .cells #[.string (⟨#[]⟩ : ByteArray), .int .i64 0, .string (⟨#[]⟩ : ByteArray)] 26 (0, 0)) (by (with_reducible repeat (first | refine qg ?_ _ | refine qh ?_ | refine qf ?_ _)); exact BK184.out)) : gb184 ≠ gb192)); have n7_ := qa.mk ((by rw [hg]; exact Nat.ne_of_gt (zl (g := gb184) (o := .cells #[.string (⟨#[]⟩ : ByteArray), .int .i64 0, .string (⟨#[]⟩ : ByteArray)] 26 (0, 0)) (by (with_reducible repeat (first | refine qg ?_ _ | refine qh ?_ | refine qf ?_ _)); exact BK184.out)) : gb192 ≠ gb184)); clear HO_20; clear BK184; clear HB; have HO_20 := n0_; have BK184 := n1_; have HB := n2_; have BK192 := n3_; have GW192 := n4_; have GE192 := n5_; have NB184_192 := n6_; have NB192_184 := n7_; clear n0_ n1_ n2_ n3_ n4_ n5_ n6_ n7_; clear hb hbox hg; have hnb18 := NB192_184.out; have hnc18 := NB184_192.out; have hcz19_0 : w17.cell? ⟨gb192, 0, none⟩ = some (.string (⟨#[]⟩ : ByteArray)) := (qi BK192.out 0).trans rfl; have hcz19_1 : w17.cell? ⟨gb192, 1, none⟩ = some (.string (⟨#[]⟩ : ByteArray)) := (qi BK192.out 1).trans rfl; have hfz19_0 := qk BK192.out 0; have hfz19_1 := qk BK192.out 1))
         go_roundg k1
         case measure => have := HK1.out; omega
         case rel => exact ⟨(x4_1), (wrap64 (x22_1 + 1)), (by first | rfl | (simp; done) | (simp [*]; done)), (by first | rfl | (simp; done) | (simp [*]; done)), H', ⟨by have := HK1.out; omega⟩, ⟨by (with_reducible repeat (first | apply Kd.zi | apply Kd.ze | apply Kd.zv)); exact Kd.x2 (Kd.R_far (p := ⟨gb192, 1, none⟩) (Kd.R_far (p := ⟨gb192, 0, none⟩) (Kd.x2 HO_20.out (fun k_ hk => (⟨hk, hk.2⟩ : _ ∧ k_ ≠ gb192))) (fun _ hk => hk.2) (.string ((rd_T75 t188 x22_1).f0))) (fun _ hk => hk.2) (.string ((rd_T75 t188 x22_1).f1))) (fun _ hk => trivial)⟩, ⟨by (with_reducible repeat (first | refine qg ?_ _ | refine qh ?_ | refine qf ?_ _)); refine xd ?_ NB184_192.out _; (with_reducible repeat (first | refine qg ?_ _ | refine qh ?_ | refine qf ?_ _)); refine xd ?_ NB184_192.out _; (with_reducible repeat (first | refine qg ?_ _ | refine qh ?_ | refine qf ?_ _)); exact BK184.out⟩, ⟨by repeat (first | (with_reducible first | exact HB.out | apply qc | apply qb | apply qd | refine qe ?_ GE184.out | refine qe ?_ GE192.out) | exact HB.out)⟩⟩
       ·rw [if_neg c12] at H
        exact absurd H (by simp)
      ·rw [if_neg c11] at H
       exact absurd H (by simp)
     ·rw [if_neg c10] at H
      have c10b0 : decide (x22_1 < (t188.length : Int)) = false := decide_eq_false c10
      clear c10
      (first | rw [c10b0] | (simp only [qy, qz]; rw [c10b0]) | skip)
      have H' := qa.mk H
      clear H
      go_wp2
      go_meet
      case rel => exact ⟨_, (x4_1), (by first | rfl | (simp; done) | (simp [*]; done)), H', ⟨by have := HK1.out; first | omega | exact Nat.le_refl _⟩, ⟨by (with_reducible repeat (first | refine qg ?_ _ | refine qh ?_ | refine qf ?_ _)); exact BK184.out⟩, ⟨by repeat (first | (with_reducible first | exact HB.out | apply qc | apply qb | apply qd | refine qe ?_ GE184.out) | exact HB.out)⟩⟩
  case rest =>
   clear HC5
   (try clear c1); (try clear p1); (try clear q1); (try clear hx1); (try clear p2); (try clear c3); (try clear c4); (try clear p6); (try clear c10); (try clear c10b0); (try clear c11); try clear c11b0
   (try clear c12); (try clear c12b0); (try clear c13); (try clear c13b0); (try clear c13b1); (try clear c15); (try clear c18); (try clear p19); (try clear q19); (try clear hx19); try clear hcz16_0
   (try clear hcz16_1); (try clear hcz19_0); (try clear hcz19_1); (try clear hfz16_0); (try clear hfz16_1); (try clear hfz19_0); (try clear hfz19_1); (try clear hx191_0); (try clear hx191_1); try clear p191
   (try clear p2); try clear q191
   obtain ⟨kq, x4_4, rfl, HA, HJ4, BK184, HB⟩ := hcut
   cases kq with
   | zero => exact absurd HA.out (by simp [ql.j1])
   | succ kj4 =>
    have H := HA.out
    clear HA
    simp only [ql.j1] at H
    replace H := Option.bind_eq_some_iff.mp H
    obtain ⟨⟨t193, t194⟩, A200, H⟩ := H
    replace H : (if t194 = true then ((xh.f kj4 x4_4).bind fun t195 => (ql.j2 kj4 x4_4 t193 (!t195))) else (ql.j2 kj4 x4_4 t193 true)) = some (r1, r2, r3, r4) := H
    have A20 := qa.mk A200
    clear A200
    have HC21 := qa.mk H
    clear H
    go_upto_region 11 with (first | ((with_reducible refine zk (f := 48) rfl ?_); refine xv (some 35) rfl rfl Tryd.func48 (by kernel_rfl) rfl #[.string t186] rfl (by (try simp only [List.map_toArray, List.map_cons, List.map_nil]); first | done | rfl | (simp only [List.length_drop, List.length_take]; rfl)) ?_; (with_reducible refine (qw.calls kj4 t186 t193 t194 _ A20.out).mono ?_); rintro e w22 ⟨rfl, hb⟩; refine ⟨_, rfl, ?_⟩; have n0_ := qa.mk (qt (g := gb184) (o := .cells #[.string (⟨#[]⟩ : ByteArray), .int .i64 0, .string (⟨#[]⟩ : ByteArray)] 26 (0, 0)) (by (with_reducible repeat (first | refine qg ?_ _ | refine qh ?_ | refine qf ?_ _)); exact BK184.out) hb); have n1_ := qa.mk (qj (by repeat (first | (with_reducible first | exact HB.out | apply qc | apply qb | apply qd | refine qe ?_ GE184.out) | exact HB.out)) hb); clear BK184; clear HB; have BK184 := n0_; have HB := n1_; clear n0_ n1_; (try clear hb); (try clear hb2); (try clear hk); (try clear hi)))
    (try simp only [Act.put, List.setIfInBounds_toArray, List.set_cons_zero, List.set_cons_succ])
    go_cut [44] (fun v44 wc => ∃ (kq : Nat) (x44_20 : Bool), v44 = .bool x44_20 ∧ qa (ql.j2 kq x4_4 t193 x44_20 = some (r1, r2, r3, r4)) ∧ qa (kq ≤ kj4) ∧ qa (wc.heap[gb184]? = some (.cells #[.string (⟨#[]⟩ : ByteArray), .int .i64 0, .string (⟨#[]⟩ : ByteArray)] 26 (0, 0))) ∧ qa (Below w.heap.size w wc))
    case first =>
     have H := HC21.out
     clear HC21
     by_cases c23 : t194 = true
     ·subst c23
      have H1 : ((xh.f kj4 x4_4).bind fun t195 => (ql.j2 kj4 x4_4 t193 (!t195))) = some (r1, r2, r3, r4) := by rw [if_pos rfl] at H; exact H
      clear H
      have H := H1
      clear H1
      replace H := Option.bind_eq_some_iff.mp H
      obtain ⟨t195, A240, H⟩ := H
      replace H : (ql.j2 kj4 x4_4 t193 (!t195)) = some (r1, r2, r3, r4) := H
      have A24 := qa.mk A240
      clear A240
      have H' := qa.mk H
      clear H
      go_wp2_with (first | (go_at_call 26; (with_reducible refine (xh.calls kj4 x4_4 t195 _ ?side1 A24.out).mono ?_); (case side1 => exact LibHeld.below HG.out (by repeat (first | (with_reducible first | exact HB.out | apply qc | apply qb | apply qd | refine qe ?_ GE184.out) | exact HB.out))); rintro e w25 ⟨rfl, hb⟩; have n0_ := qa.mk (qt (g := gb184) (o := .cells #[.string (⟨#[]⟩ : ByteArray), .int .i64 0, .string (⟨#[]⟩ : ByteArray)] 26 (0, 0)) (by (with_reducible repeat (first | refine qg ?_ _ | refine qh ?_ | refine qf ?_ _)); exact BK184.out) hb); have n1_ := qa.mk (qj (by repeat (first | (with_reducible first | exact HB.out | apply qc | apply qb | apply qd | refine qe ?_ GE184.out) | exact HB.out)) hb); clear BK184; clear HB; have BK184 := n0_; have HB := n1_; clear n0_ n1_; (try clear hb); (try clear hb2); (try clear hk); (try clear hi)))
      go_meet
      case rel => exact ⟨_, (!t195), (by first | rfl | (simp; done) | (simp [*]; done)), H', ⟨by have := HJ4.out; first | omega | exact Nat.le_refl _⟩, ⟨by (with_reducible repeat (first | refine qg ?_ _ | refine qh ?_ | refine qf ?_ _)); exact BK184.out⟩, ⟨by repeat (first | (with_reducible first | exact HB.out | apply qc | apply qb | apply qd | refine qe ?_ GE184.out) | exact HB.out)⟩⟩
     ·replace c23 := Bool.eq_false_iff.mpr c23
      subst c23
      have H1 : (ql.j2 kj4 x4_4 t193 true) = some (r1, r2, r3, r4) := by rw [if_neg (show ¬ (false = true) by decide)] at H; exact H
      clear H
      have H := H1
      clear H1
      have H' := qa.mk H
      clear H
      go_wp2
      go_meet
      case rel => exact ⟨_, (true), (by first | rfl | (simp; done) | (simp [*]; done)), H', ⟨by have := HJ4.out; first | omega | exact Nat.le_refl _⟩, ⟨by (with_reducible repeat (first | refine qg ?_ _ | refine qh ?_ | refine qf ?_ _)); exact BK184.out⟩, ⟨by repeat (first | (with_reducible first | exact HB.out | apply qc | apply qb | apply qd | refine qe ?_ GE184.out) | exact HB.out)⟩⟩
    case rest =>
     clear HC21
     (try clear c1); (try clear p1); (try clear q1); (try clear hx1); (try clear c2); (try clear p2); (try clear c3); (try clear c4); (try clear p6); (try clear c10); (try clear c10b0); try clear c11
     (try clear c11b0); (try clear c12); (try clear c12b0); (try clear c13); (try clear c13b0); (try clear c13b1); (try clear c15); (try clear c18); (try clear p19); (try clear q19); try clear hx19
     (try clear c23); (try clear hcz16_0); (try clear hcz16_1); (try clear hcz19_0); (try clear hcz19_1); (try clear hfz16_0); (try clear hfz16_1); (try clear hfz19_0); (try clear hfz19_1); try clear hx191_0
     (try clear hx191_1); (try clear p1); (try clear p19); (try clear p191); (try clear p2); (try clear p6); (try clear q1); (try clear q19); try clear q191
     obtain ⟨kq, x44_20, rfl, HA, HJ20, BK184, HB⟩ := hcut
     cases kq with
     | zero => exact absurd HA.out (by simp [ql.j2])
     | succ kj20 =>
      have H := HA.out
      clear HA
      simp only [ql.j2] at H
      by_cases c26 : x44_20 = true
      ·subst c26
       have H1 : (some ((⟨#[]⟩ : ByteArray), 0, (⟨#[]⟩ : ByteArray), false)) = some (r1, r2, r3, r4) := by rw [if_pos rfl] at H; exact H
       clear H
       have H := H1
       clear H1
       simp only [Option.some.injEq, Prod.mk.injEq] at H
       obtain ⟨rfl, rfl, rfl, rfl⟩ := H
       have hcz27_0 : wc.cell? ⟨gb184, 0, none⟩ = some (.string (⟨#[]⟩ : ByteArray)) := (qi BK184.out 0).trans rfl
       have hcz27_1 : wc.cell? ⟨gb184, 1, none⟩ = some (.int .i64 0) := (qi BK184.out 1).trans rfl
       have hcz27_2 : wc.cell? ⟨gb184, 2, none⟩ = some (.string (⟨#[]⟩ : ByteArray)) := (qi BK184.out 2).trans rfl
       have hfz27_0 := qk BK184.out 0
       have hfz27_1 := qk BK184.out 1
       have hfz27_2 := qk BK184.out 2
       go_wp2
       refine bodyPost_ret (jb rfl _ _ gb184 26 #[.string (⟨#[]⟩ : ByteArray), .int .i64 0, .string (⟨#[]⟩ : ByteArray)] (0, 0) _ rfl (by (with_reducible repeat (first | refine qg ?_ _ | refine qh ?_ | refine qf ?_ _)); refine zw (cs := #[.string (⟨#[]⟩ : ByteArray), .int .i64 0, .string (⟨#[]⟩ : ByteArray)]) ?_ 2 _ rfl; (with_reducible repeat (first | refine qg ?_ _ | refine qh ?_ | refine qf ?_ _)); refine zw (cs := #[.string (⟨#[]⟩ : ByteArray), .int .i64 0, .string (⟨#[]⟩ : ByteArray)]) ?_ 1 _ rfl; (with_reducible repeat (first | refine qg ?_ _ | refine qh ?_ | refine qf ?_ _)); refine zw (cs := #[.string (⟨#[]⟩ : ByteArray), .int .i64 0, .string (⟨#[]⟩ : ByteArray)]) ?_ 0 _ rfl; (with_reducible repeat (first | refine qg ?_ _ | refine qh ?_ | refine qf ?_ _)); exact BK184.out) Tryd.underlying26 rfl (by kernel_rfl)) rfl ?_
       exact ⟨by first | rfl | (simp [qq, qp] <;> rfl) | (simp [*, qq, qp] <;> rfl), by repeat (first | (with_reducible first | exact HB.out | apply qc | apply qb | apply qd | refine qe ?_ GE184.out) | exact HB.out)⟩
      ·replace c26 := Bool.eq_false_iff.mpr c26
       subst c26
       have H1 : (if x4_4.toList = ([48, 46, 57, 46, 50, 51, 52, 50, 46, 49, 57, 50, 48, 48, 51, 48, 48, 46, 49, 48, 48, 46, 49, 46, 50, 53] : List UInt8) then (ql.j3 kj20 x4_4 t193 12 true) else (ql.j3 kj20 x4_4 t193 12 (x4_4.toList == ([49, 46, 50, 46, 56, 52, 48, 46, 49, 49, 51, 53, 52, 57, 46, 49, 46, 57, 46, 49] : List UInt8)))) = some (r1, r2, r3, r4) := by rw [if_neg (show ¬ (false = true) by decide)] at H; exact H
       clear H
       have H := H1
       clear H1
       have HC28 := qa.mk H
       clear H
       go_upto_region 14 with (fail)
       go_cut [46] (fun v46 wc => ∃ (kq : Nat) (x46_27 : Bool), v46 = .bool x46_27 ∧ qa (ql.j3 kq x4_4 t193 12 x46_27 = some (r1, r2, r3, r4)) ∧ qa (kq ≤ kj20) ∧ qa (wc.heap[gb184]? = some (.cells #[.string (⟨#[]⟩ : ByteArray), .int .i64 0, .string (⟨#[]⟩ : ByteArray)] 26 (0, 0))) ∧ qa (Below w.heap.size w wc))
       case first =>
        have H := HC28.out
        clear HC28
        by_cases c29 : x4_4.toList = ([48, 46, 57, 46, 50, 51, 52, 50, 46, 49, 57, 50, 48, 48, 51, 48, 48, 46, 49, 48, 48, 46, 49, 46, 50, 53] : List UInt8)
        ·rw [if_pos c29] at H
         have c29b0 : (x4_4.toList == ([48, 46, 57, 46, 50, 51, 52, 50, 46, 49, 57, 50, 48, 48, 51, 48, 48, 46, 49, 48, 48, 46, 49, 46, 50, 53] : List UInt8)) = true := beq_iff_eq.mpr c29
         have c29b1 : (x4_4.toList != ([48, 46, 57, 46, 50, 51, 52, 50, 46, 49, 57, 50, 48, 48, 51, 48, 48, 46, 49, 48, 48, 46, 49, 46, 50, 53] : List UInt8)) = false := bne_eq_false_iff_eq.mpr c29
         clear c29
         (first | rw [c29b0] | (simp only [qy, qz]; rw [c29b0]) | skip)
         have H' := qa.mk H
         clear H
         go_wp2
         go_meet
         case rel => exact ⟨_, (true), (by first | rfl | (simp; done) | (simp [*]; done)), H', ⟨by have := HJ4.out; have := HJ20.out; first | omega | exact Nat.le_refl _⟩, ⟨by (with_reducible repeat (first | refine qg ?_ _ | refine qh ?_ | refine qf ?_ _)); exact BK184.out⟩, ⟨by repeat (first | (with_reducible first | exact HB.out | apply qc | apply qb | apply qd | refine qe ?_ GE184.out) | exact HB.out)⟩⟩
        ·rw [if_neg c29] at H
         have c29b0 : (x4_4.toList == ([48, 46, 57, 46, 50, 51, 52, 50, 46, 49, 57, 50, 48, 48, 51, 48, 48, 46, 49, 48, 48, 46, 49, 46, 50, 53] : List UInt8)) = false := beq_eq_false_iff_ne.mpr c29
         have c29b1 : (x4_4.toList != ([48, 46, 57, 46, 50, 51, 52, 50, 46, 49, 57, 50, 48, 48, 51, 48, 48, 46, 49, 48, 48, 46, 49, 46, 50, 53] : List UInt8)) = true := bne_iff_ne.mpr c29
         (first | rw [c29b0] | (simp only [qy, qz]; rw [c29b0]) | skip)
         have H' := qa.mk H
         clear H
         go_wp2
         go_meet
         case rel => exact ⟨_, ((x4_4.toList == ([49, 46, 50, 46, 56, 52, 48, 46, 49, 49, 51, 53, 52, 57, 46, 49, 46, 57, 46, 49] : List UInt8))), (by first | rfl | (simp; done) | (simp [*]; done)), H', ⟨by have := HJ4.out; have := HJ20.out; first | omega | exact Nat.le_refl _⟩, ⟨by (with_reducible repeat (first | refine qg ?_ _ | refine qh ?_ | refine qf ?_ _)); exact BK184.out⟩, ⟨by repeat (first | (with_reducible first | exact HB.out | apply qc | apply qb | apply qd | refine qe ?_ GE184.out) | exact HB.out)⟩⟩
       case rest =>
        clear HC28
        (try clear c1); (try clear p1); (try clear q1); (try clear hx1); (try clear c2); (try clear p2); (try clear c3); (try clear c4); (try clear p6); (try clear c10); (try clear c10b0); try clear c11
        (try clear c11b0); (try clear c12); (try clear c12b0); (try clear c13); (try clear c13b0); (try clear c13b1); (try clear c15); (try clear c18); (try clear p19); (try clear q19); try clear hx19
        (try clear c23); (try clear c26); (try clear c29); (try clear c29b0); (try clear c29b1); (try clear hcz16_0); (try clear hcz16_1); (try clear hcz19_0); (try clear hcz19_1); try clear hcz27_0
        (try clear hcz27_1); (try clear hcz27_2); (try clear hfz16_0); (try clear hfz16_1); (try clear hfz19_0); (try clear hfz19_1); (try clear hfz27_0); (try clear hfz27_1); try clear hfz27_2
        (try clear hx191_0); (try clear hx191_1); (try clear p1); (try clear p19); (try clear p191); (try clear p2); (try clear p6); (try clear q1); (try clear q19); try clear q191
        obtain ⟨kq, x46_27, rfl, HA, HJ27, BK184, HB⟩ := hcut
        cases kq with
        | zero => exact absurd HA.out (by simp [ql.j3])
        | succ kj27 =>
         have H := HA.out
         clear HA
         simp only [ql.j3] at H
         by_cases c30 : x46_27 = true
         ·subst c30
          have H1 : (some (x4_4, 22, t193, true)) = some (r1, r2, r3, r4) := by rw [if_pos rfl] at H; exact H
          clear H
          have H := H1
          clear H1
          simp only [Option.some.injEq, Prod.mk.injEq] at H
          obtain ⟨rfl, rfl, rfl, rfl⟩ := H
          have hcz31_0 : wc.cell? ⟨gb184, 0, none⟩ = some (.string (⟨#[]⟩ : ByteArray)) := (qi BK184.out 0).trans rfl
          have hcz31_1 : wc.cell? ⟨gb184, 1, none⟩ = some (.int .i64 0) := (qi BK184.out 1).trans rfl
          have hcz31_2 : wc.cell? ⟨gb184, 2, none⟩ = some (.string (⟨#[]⟩ : ByteArray)) := (qi BK184.out 2).trans rfl
          have hfz31_0 := qk BK184.out 0
          have hfz31_1 := qk BK184.out 1
          have hfz31_2 := qk BK184.out 2
          go_wp2
          refine bodyPost_ret (jb rfl _ _ gb184 26 #[.string x4_4, .int .i64 22, .string t193] (0, 0) _ rfl (by (with_reducible repeat (first | refine qg ?_ _ | refine qh ?_ | refine qf ?_ _)); refine zw (cs := #[.string x4_4, .int .i64 22, .string (⟨#[]⟩ : ByteArray)]) ?_ 2 _ rfl; (with_reducible repeat (first | refine qg ?_ _ | refine qh ?_ | refine qf ?_ _)); refine zw (cs := #[.string x4_4, .int .i64 0, .string (⟨#[]⟩ : ByteArray)]) ?_ 1 _ rfl; (with_reducible repeat (first | refine qg ?_ _ | refine qh ?_ | refine qf ?_ _)); refine zw (cs := #[.string (⟨#[]⟩ : ByteArray), .int .i64 0, .string (⟨#[]⟩ : ByteArray)]) ?_ 0 _ rfl; (with_reducible repeat (first | refine qg ?_ _ | refine qh ?_ | refine qf ?_ _)); exact BK184.out) Tryd.underlying26 rfl (by kernel_rfl)) rfl ?_
          exact ⟨by first | rfl | (simp [qq, qp] <;> rfl) | (simp [*, qq, qp] <;> rfl), by repeat (first | (with_reducible first | exact HB.out | apply qc | apply qb | apply qd | refine qe ?_ GE184.out) | exact HB.out)⟩
         ·replace c30 := Bool.eq_false_iff.mpr c30
          subst c30
          have H1 : ((k6.f 19 t193).bind fun t196 => (if t196 = true then (some (x4_4, 19, t193, true)) else (some (x4_4, 12, t193, true)))) = some (r1, r2, r3, r4) := by rw [if_neg (show ¬ (false = true) by decide)] at H; exact H
          clear H
          have H := H1
          clear H1
          replace H := Option.bind_eq_some_iff.mp H
          obtain ⟨t196, A320, H⟩ := H
          replace H : (if t196 = true then (some (x4_4, 19, t193, true)) else (some (x4_4, 12, t193, true))) = some (r1, r2, r3, r4) := H
          have A32 := qa.mk A320
          clear A320
          by_cases c33 : t196 = true
          ·subst c33
           have H1 : (some (x4_4, 19, t193, true)) = some (r1, r2, r3, r4) := by rw [if_pos rfl] at H; exact H
           clear H
           have H := H1
           clear H1
           simp only [Option.some.injEq, Prod.mk.injEq] at H
           obtain ⟨rfl, rfl, rfl, rfl⟩ := H
           go_wp2_with (first | ((with_reducible refine zk (f := 27) rfl ?_); refine xv (some 55) rfl rfl Tryd.func27 (by kernel_rfl) rfl #[.int .i64 19, .string t193] rfl (by (try simp only [List.map_toArray, List.map_cons, List.map_nil]); first | done | rfl | (simp only [List.length_drop, List.length_take]; rfl)) ?_; (with_reducible refine (k6.calls 19 t193 true _ A32.out).mono ?_); rintro e w34 ⟨rfl, hb⟩; refine ⟨_, rfl, ?_⟩; have n0_ := qa.mk (qt (g := gb184) (o := .cells #[.string (⟨#[]⟩ : ByteArray), .int .i64 0, .string (⟨#[]⟩ : ByteArray)] 26 (0, 0)) (by (with_reducible repeat (first | refine qg ?_ _ | refine qh ?_ | refine qf ?_ _)); exact BK184.out) hb); have n1_ := qa.mk (qj (by repeat (first | (with_reducible first | exact HB.out | apply qc | apply qb | apply qd | refine qe ?_ GE184.out) | exact HB.out)) hb); clear BK184; clear HB; have BK184 := n0_; have HB := n1_; clear n0_ n1_; (try clear hb); (try clear hb2); (try clear hk); (try clear hi); have hcz35_0 : w34.cell? ⟨gb184, 0, none⟩ = some (.string (⟨#[]⟩ : ByteArray)) := (qi BK184.out 0).trans rfl; have hcz35_1 : w34.cell? ⟨gb184, 1, none⟩ = some (.int .i64 0) := (qi BK184.out 1).trans rfl; have hcz35_2 : w34.cell? ⟨gb184, 2, none⟩ = some (.string (⟨#[]⟩ : ByteArray)) := (qi BK184.out 2).trans rfl; have hfz35_0 := qk BK184.out 0; have hfz35_1 := qk BK184.out 1; have hfz35_2 := qk BK184.out 2))
           refine bodyPost_ret (jb rfl _ _ gb184 26 #[.string x4_4, .int .i64 19, .string t193] (0, 0) _ rfl (by (with_reducible repeat (first | refine qg ?_ _ | refine qh ?_ | refine qf ?_ _)); refine zw (cs := #[.string x4_4, .int .i64 19, .string (⟨#[]⟩ : ByteArray)]) ?_ 2 _ rfl; (with_reducible repeat (first | refine qg ?_ _ | refine qh ?_ | refine qf ?_ _)); refine zw (cs := #[.string x4_4, .int .i64 0, .string (⟨#[]⟩ : ByteArray)]) ?_ 1 _ rfl; (with_reducible repeat (first | refine qg ?_ _ | refine qh ?_ | refine qf ?_ _)); refine zw (cs := #[.string (⟨#[]⟩ : ByteArray), .int .i64 0, .string (⟨#[]⟩ : ByteArray)]) ?_ 0 _ rfl; (with_reducible repeat (first | refine qg ?_ _ | refine qh ?_ | refine qf ?_ _)); exact BK184.out) Tryd.underlying26 rfl (by kernel_rfl)) rfl ?_
           exact ⟨by first | rfl | (simp [qq, qp] <;> rfl) | (simp [*, qq, qp] <;> rfl), by repeat (first | (with_reducible first | exact HB.out | apply qc | apply qb | apply qd | refine qe ?_ GE184.out) | exact HB.out)⟩
          ·replace c33 := Bool.eq_false_iff.mpr c33
           subst c33
           have H1 : (some (x4_4, 12, t193, true)) = some (r1, r2, r3, r4) := by rw [if_neg (show ¬ (false = true) by decide)] at H; exact H
           clear H
           have H := H1
           clear H1
           simp only [Option.some.injEq, Prod.mk.injEq] at H
           obtain ⟨rfl, rfl, rfl, rfl⟩ := H
           go_wp2_with (first | ((with_reducible refine zk (f := 27) rfl ?_); refine xv (some 55) rfl rfl Tryd.func27 (by kernel_rfl) rfl #[.int .i64 19, .string t193] rfl (by (try simp only [List.map_toArray, List.map_cons, List.map_nil]); first | done | rfl | (simp only [List.length_drop, List.length_take]; rfl)) ?_; (with_reducible refine (k6.calls 19 t193 false _ A32.out).mono ?_); rintro e w36 ⟨rfl, hb⟩; refine ⟨_, rfl, ?_⟩; have n0_ := qa.mk (qt (g := gb184) (o := .cells #[.string (⟨#[]⟩ : ByteArray), .int .i64 0, .string (⟨#[]⟩ : ByteArray)] 26 (0, 0)) (by (with_reducible repeat (first | refine qg ?_ _ | refine qh ?_ | refine qf ?_ _)); exact BK184.out) hb); have n1_ := qa.mk (qj (by repeat (first | (with_reducible first | exact HB.out | apply qc | apply qb | apply qd | refine qe ?_ GE184.out) | exact HB.out)) hb); clear BK184; clear HB; have BK184 := n0_; have HB := n1_; clear n0_ n1_; (try clear hb); (try clear hb2); (try clear hk); (try clear hi); have hcz37_0 : w36.cell? ⟨gb184, 0, none⟩ = some (.string (⟨#[]⟩ : ByteArray)) := (qi BK184.out 0).trans rfl; have hcz37_1 : w36.cell? ⟨gb184, 1, none⟩ = some (.int .i64 0) := (qi BK184.out 1).trans rfl; have hcz37_2 : w36.cell? ⟨gb184, 2, none⟩ = some (.string (⟨#[]⟩ : ByteArray)) := (qi BK184.out 2).trans rfl; have hfz37_0 := qk BK184.out 0; have hfz37_1 := qk BK184.out 1; have hfz37_2 := qk BK184.out 2))
           refine bodyPost_ret (jb rfl _ _ gb184 26 #[.string x4_4, .int .i64 12, .string t193] (0, 0) _ rfl (by (with_reducible repeat (first | refine qg ?_ _ | refine qh ?_ | refine qf ?_ _)); refine zw (cs := #[.string x4_4, .int .i64 12, .string (⟨#[]⟩ : ByteArray)]) ?_ 2 _ rfl; (with_reducible repeat (first | refine qg ?_ _ | refine qh ?_ | refine qf ?_ _)); refine zw (cs := #[.string x4_4, .int .i64 0, .string (⟨#[]⟩ : ByteArray)]) ?_ 1 _ rfl; (with_reducible repeat (first | refine qg ?_ _ | refine qh ?_ | refine qf ?_ _)); refine zw (cs := #[.string (⟨#[]⟩ : ByteArray), .int .i64 0, .string (⟨#[]⟩ : ByteArray)]) ?_ 0 _ rfl; (with_reducible repeat (first | refine qg ?_ _ | refine qh ?_ | refine qf ?_ _)); exact BK184.out) Tryd.underlying26 rfl (by kernel_rfl)) rfl ?_
           exact ⟨by first | rfl | (simp [qq, qp] <;> rfl) | (simp [*, qq, qp] <;> rfl), by repeat (first | (with_reducible first | exact HB.out | apply qc | apply qb | apply qd | refine qe ?_ GE184.out) | exact HB.out)⟩
 ·replace c3 := Bool.eq_false_iff.mpr c3
  subst c3
  have H1 : (some ((⟨#[]⟩ : ByteArray), 0, (⟨#[]⟩ : ByteArray), false)) = some (r1, r2, r3, r4) := by rw [if_neg (show ¬ (false = true) by decide)] at H; exact H
  clear H
  have H := H1
  clear H1
  simp only [Option.some.injEq, Prod.mk.injEq] at H
  obtain ⟨rfl, rfl, rfl, rfl⟩ := H
  go_enter Tryd.func31, Tryd.ntmps31
  go_wp2_with (first | ((with_reducible refine zd (N := 2) rfl ?_); refine zg ?hg (N := 2) ?hd (cs := #[.string (⟨#[]⟩ : ByteArray), .int .i64 0, .string (⟨#[]⟩ : ByteArray)]) (t := 26) ?hr ?_; (case hd => rfl); (case hg => rfl); (case hr => first | (go_simp; done) | (go_simp; rfl)); intro gb184 hg w38 hbox hb; have n0_ := qa.mk (qj (by repeat (first | (with_reducible first | exact HB.out | apply qc | apply qb | apply qd) | exact HB.out)) hb); have n1_ := qa.mk (hbox); have n2_ := qa.mk ((by rw [hg]; exact (qm (by repeat (first | (with_reducible first | exact HB.out | apply qc | apply qb | apply qd) | exact HB.out))) : w.heap.size ≤ gb184)); have n3_ := qa.mk ((by rw [hg]; exact (qm (by repeat (first | (with_reducible first | exact HB.out | apply qc | apply qb | apply qd) | exact HB.out))) : w.heap.size ≤ gb184)); clear HB; have HB := n0_; have BK184 := n1_; have GW184 := n2_; have GE184 := n3_; clear n0_ n1_ n2_ n3_; clear hb hbox hg) | ((with_reducible refine zk (f := 46) rfl ?_); refine xv (some 13) rfl rfl Tryd.func46 (by kernel_rfl) rfl #[.string a0, .string (⟨#[61]⟩ : ByteArray)] rfl (by (try simp only [List.map_toArray, List.map_cons, List.map_nil]); first | done | rfl | (simp only [List.length_drop, List.length_take]; rfl)) ?_; (with_reducible refine (strings_Cut.calls a0 (⟨#[61]⟩ : ByteArray) t185 t186 false _ ?side1 A2.out).mono ?_); (case side1 => exact LibHeld.below HG.out (by repeat (first | (with_reducible first | exact HB.out | apply qc | apply qb | apply qd | refine qe ?_ GE184.out) | exact HB.out))); rintro e w39 ⟨rfl, hb⟩; refine ⟨_, rfl, ?_⟩; have n0_ := qa.mk (qt (g := gb184) (o := .cells #[.string (⟨#[]⟩ : ByteArray), .int .i64 0, .string (⟨#[]⟩ : ByteArray)] 26 (0, 0)) (by (with_reducible repeat (first | refine qg ?_ _ | refine qh ?_ | refine qf ?_ _)); exact BK184.out) hb); have n1_ := qa.mk (qj (by repeat (first | (with_reducible first | exact HB.out | apply qc | apply qb | apply qd | refine qe ?_ GE184.out) | exact HB.out)) hb); clear BK184; clear HB; have BK184 := n0_; have HB := n1_; clear n0_ n1_; (try clear hb); (try clear hb2); (try clear hk); (try clear hi); have hcz40_0 : w39.cell? ⟨gb184, 0, none⟩ = some (.string (⟨#[]⟩ : ByteArray)) := (qi BK184.out 0).trans rfl; have hcz40_1 : w39.cell? ⟨gb184, 1, none⟩ = some (.int .i64 0) := (qi BK184.out 1).trans rfl; have hcz40_2 : w39.cell? ⟨gb184, 2, none⟩ = some (.string (⟨#[]⟩ : ByteArray)) := (qi BK184.out 2).trans rfl; have hfz40_0 := qk BK184.out 0; have hfz40_1 := qk BK184.out 1; have hfz40_2 := qk BK184.out 2))
  refine bodyPost_ret (jb rfl _ _ gb184 26 #[.string (⟨#[]⟩ : ByteArray), .int .i64 0, .string (⟨#[]⟩ : ByteArray)] (0, 0) _ rfl (by (with_reducible repeat (first | refine qg ?_ _ | refine qh ?_ | refine qf ?_ _)); refine zw (cs := #[.string (⟨#[]⟩ : ByteArray), .int .i64 0, .string (⟨#[]⟩ : ByteArray)]) ?_ 2 _ rfl; (with_reducible repeat (first | refine qg ?_ _ | refine qh ?_ | refine qf ?_ _)); refine zw (cs := #[.string (⟨#[]⟩ : ByteArray), .int .i64 0, .string (⟨#[]⟩ : ByteArray)]) ?_ 1 _ rfl; (with_reducible repeat (first | refine qg ?_ _ | refine qh ?_ | refine qf ?_ _)); refine zw (cs := #[.string (⟨#[]⟩ : ByteArray), .int .i64 0, .string (⟨#[]⟩ : ByteArray)]) ?_ 0 _ rfl; (with_reducible repeat (first | refine qg ?_ _ | refine qh ?_ | refine qf ?_ _)); exact BK184.out) Tryd.underlying26 rfl (by kernel_rfl)) rfl ?_
  exact ⟨by first | rfl | (simp [qq, qp] <;> rfl) | (simp [*, qq, qp] <;> rfl), by repeat (first | (with_reducible first | exact HB.out | apply qc | apply qb | apply qd | refine qe ?_ GE184.out) | exact HB.out)⟩
end Go.Proofs.YtjhlinifnjoefaaDoor.C
end
