/- Words, walks and plain laws that the claim rests on, gathered. -/
import Derived.Laws.StructEq
import Derived.Below
import Derived.Deep.Draws
import Derived.Deep.AppendLies
import Derived.Maps.AppendAt
import Derived.OwnWalk
import Derived.Laws.BytesArg
import Derived.Laws.MakeOwn
import Derived.Laws.OwnMore
import Derived.Deep.OwnRows
import Derived.Tactics
import Derived.Lib.ConvBytes
import Derived.Laws.Slices
import Derived.WalkKit
import Derived.KernelRfl
import Derived.RowKit3
import Derived.Deep.LoopGhost
import Derived.Deep.QuietTactic
import Derived.BigQuiet
import Derived.WideLaws
import Derived.Deep.DeepCutAuto
import Derived.Deep.CutBlock
import Derived.Deep.RegionHeld3
import Derived.Laws.Rows
import Derived.Lib.AppendStr
import Derived.ArgAppend
import Derived.Laws.IdiomCopy
import Derived.RowKit
import Derived.Test.YtjhlinifnjoefaaDoorProg
import Derived.WalkSpells
import Derived.OrdersHeld
import Derived.Laws.BitsLemmas
import Derived.Shelf.Small.Strs
import Derived.Shelf.Strings.Search1
import Derived.Shelf.Strings.Search2
import Derived.Shelf.Strings.Search3
import Derived.Shelf.Strings.Cut
import Derived.Shelf.Strings.Count
import Derived.Shelf.LaysM
import Derived.Shelf.Strings.Shaped
import Derived.Shelf.Strings.Prefix
import Derived.Shelf.Strings.Split
import Derived.Shelf.Strings.SplitShaped
import Derived.Shelf.Unicode.DecodeSlow
import Derived.Test.YtjhlinifnjoefaaDoorNA0
import Derived.Test.YtjhlinifnjoefaaDoorNA1
import Derived.Test.YtjhlinifnjoefaaDoorNA2
import Derived.Test.YtjhlinifnjoefaaDoorNA3
namespace Go.Proofs.YtjhlinifnjoefaaDoorW.PrintLast
end Go.Proofs.YtjhlinifnjoefaaDoorW.PrintLast
namespace Go.Proofs.YtjhlinifnjoefaaDoorW.PrintMore
end Go.Proofs.YtjhlinifnjoefaaDoorW.PrintMore
namespace Go.Proofs.YtjhlinifnjoefaaDoorW.PrintWords
end Go.Proofs.YtjhlinifnjoefaaDoorW.PrintWords
section
namespace Go.Proofs.YtjhlinifnjoefaaDoor.C
open Go.RowKit Go.Proofs.YtjhlinifnjoefaaDoorW.PrintWords Go.Proofs.YtjhlinifnjoefaaDoorW.PrintLast Go.Proofs.YtjhlinifnjoefaaDoorW.PrintMore
attribute [local go_sem] xr xp xw xx xf xe xq xo
set_option linter.unusedVariables false
set_option linter.unusedSimpArgs false
mutual
def xb.j0 : Nat → List ByteArray → Bool → Option (List Int)
 | 0, _, _ => none
 | k + 1, x3, x17 => if x17 = true then (some ([] : List Int)) else (xb.l0 k ([] : List Int) x3 (x3.length : Int) 0)
def xb.l0 : Nat → List Int → List ByteArray → Int → Int → Option (List Int)
 | 0, _, _, _, _ => none
 | k + 1, x4, x18, x19, x20 => if x20 < x19 then (if 0 ≤ x20 then (if x20 < (x18.length : Int) then ((xa.f k (rdOf ByteArray.empty x18 x20)).bind fun t146 => (if t146 < 0 then (some ([] : List Int)) else (if x4.length < 17592186044416 then (xb.l0 k (x4 ++ [t146]) x18 x19 (wrap64 (x20 + 1))) else (none)))) else (none)) else (none)) else (if 0 < (x4.length : Int) then (if 1 < (x4.length : Int) then ((oid_root.f (rd x4 0) (rd x4 1)).bind fun t152 => (if t152 = true then (some x4) else (some ([] : List Int)))) else (none)) else (none))
end
def xb.f (k : Nat) (a0 : ByteArray) : Option (List Int) := (strings_Split.f a0 (⟨#[46]⟩ : ByteArray)).bind fun t142 => (if (t142.length : Int) < 2 then (xb.j0 k t142 true) else (xb.j0 k t142 (decide ((t142.length : Int) > 12))))
theorem xb.xu : ∀ k, (∀ y0 y1, LeO (xb.j0 k y0 y1) (xb.j0 (k + 1) y0 y1)) ∧ (∀ y0 y1 y2 y3, LeO (xb.l0 k y0 y1 y2 y3) (xb.l0 (k + 1) y0 y1 y2 y3))
 | 0 => ⟨fun _ _ r h => by simp [xb.j0] at h, fun _ _ _ _ r h => by simp [xb.l0] at h⟩
 | k + 1 => by
  obtain ⟨ih0, ih1⟩ := xb.xu k
  refine ⟨?_, ?_⟩
  ·intro y0 y1
   unfold xb.j0
   repeat' first
   | (with_reducible exact ih0 _ _)
   | (with_reducible exact ih1 _ _ _ _)
   | (with_reducible exact xa.mono _ _)
   | (with_reducible exact LeO.refl _)
   | (with_reducible exact LeO.none _)
   | (with_reducible refine LeO.ite ?_ ?_)
   | (with_reducible refine LeO.bind ?_ (fun _ => ?_))
  ·intro y0 y1 y2 y3
   unfold xb.l0
   repeat' first
   | (with_reducible exact ih0 _ _)
   | (with_reducible exact ih1 _ _ _ _)
   | (with_reducible exact xa.mono _ _)
   | (with_reducible exact LeO.refl _)
   | (with_reducible exact LeO.none _)
   | (with_reducible refine LeO.ite ?_ ?_)
   | (with_reducible refine LeO.bind ?_ (fun _ => ?_))
theorem xb.mono : ∀ a0 k, LeO (xb.f k a0) (xb.f (k + 1) a0) := by
 intro a0 k
 obtain ⟨ih0, ih1⟩ := xb.xu k
 unfold xb.f
 repeat' first
   | (with_reducible exact ih0 _ _)
   | (with_reducible exact ih1 _ _ _ _)
   | (with_reducible exact xa.mono _ _)
   | (with_reducible exact LeO.refl _)
   | (with_reducible exact LeO.none _)
   | (with_reducible refine LeO.ite ?_ ?_)
   | (with_reducible refine LeO.bind ?_ (fun _ => ?_))
set_option maxHeartbeats 8000000 in
set_option maxRecDepth 100000 in
theorem xb.calls (k : Nat) (a0 : ByteArray) (r : List Int) (w : World) (hG : LibHeld w) (h : xb.f k a0 = some r) :
  Calls Tryd.prog 34 #[.string a0] w fun e w' => ∃ v0_ : Value, e = .returned (v0_) ∧ Kd.R (Kd.int .i64) 3 w' w.heap.size (fun _ => True) v0_ r ∧ (r = [] → v0_ = .slice none 0 0) ∧ Below w.heap.size w w' := by
 have HG := qa.mk hG
 clear hG
 have HB := qa.mk (Below.refl w.heap.size w)
 have H : ((strings_Split.f a0 (⟨#[46]⟩ : ByteArray)).bind fun t142 => (if (t142.length : Int) < 2 then (xb.j0 k t142 true) else (xb.j0 k t142 (decide ((t142.length : Int) > 12))))) = some r := h
 clear h
 replace H := Option.bind_eq_some_iff.mp H
 obtain ⟨t142, A20, H⟩ := H
 replace H : (if (t142.length : Int) < 2 then (xb.j0 k t142 true) else (xb.j0 k t142 (decide ((t142.length : Int) > 12)))) = some r := H
 have A2 := qa.mk A20
 clear A20
 have HC3 := qa.mk H
 clear H
 go_enter Tryd.func34, Tryd.ntmps34
 go_upto_region 2 with (first | (go_at_call 30; (with_reducible refine (strings_Split.calls a0 (⟨#[46]⟩ : ByteArray) t142 _ ?side1 A2.out).mono ?_); (case side1 => exact LibHeld.below HG.out (by repeat (first | (with_reducible first | exact HB.out | apply qc | apply qb | apply qd) | exact HB.out))); rintro e w4 ⟨v143, rfl, ho0, hb⟩; have n0_ := qa.mk (Kd.R_lower ho0 (qm (by repeat (first | (with_reducible first | exact HB.out | apply qc | apply qb | apply qd) | exact HB.out)))); have n1_ := qa.mk (qj (by repeat (first | (with_reducible first | exact HB.out | apply qc | apply qb | apply qd) | exact HB.out)) hb); clear HB; have HO144 := n0_; have HB := n1_; clear n0_ n1_; (try clear hb); (try clear hb2); (try clear hk); (try clear hi); (try clear ho0)))
 repeat (go_quiet (first | (go_at_call 30; (with_reducible refine (strings_Split.calls a0 (⟨#[46]⟩ : ByteArray) t142 _ ?side1 A2.out).mono ?_); (case side1 => exact LibHeld.below HG.out (by repeat (first | (with_reducible first | exact HB.out | apply qc | apply qb | apply qd) | exact HB.out))); rintro e w4 ⟨v143, rfl, ho0, hb⟩; have n0_ := qa.mk (Kd.R_lower ho0 (qm (by repeat (first | (with_reducible first | exact HB.out | apply qc | apply qb | apply qd) | exact HB.out)))); have n1_ := qa.mk (qj (by repeat (first | (with_reducible first | exact HB.out | apply qc | apply qb | apply qd) | exact HB.out)) hb); clear HB; have HO144 := n0_; have HB := n1_; clear n0_ n1_; (try clear hb); (try clear hb2); (try clear hk); (try clear hi); (try clear ho0))); go_upto_region 2 with (first | (go_at_call 30; (with_reducible refine (strings_Split.calls a0 (⟨#[46]⟩ : ByteArray) t142 _ ?side1 A2.out).mono ?_); (case side1 => exact LibHeld.below HG.out (by repeat (first | (with_reducible first | exact HB.out | apply qc | apply qb | apply qd) | exact HB.out))); rintro e w4 ⟨v143, rfl, ho0, hb⟩; have n0_ := qa.mk (Kd.R_lower ho0 (qm (by repeat (first | (with_reducible first | exact HB.out | apply qc | apply qb | apply qd) | exact HB.out)))); have n1_ := qa.mk (qj (by repeat (first | (with_reducible first | exact HB.out | apply qc | apply qb | apply qd) | exact HB.out)) hb); clear HB; have HO144 := n0_; have HB := n1_; clear n0_ n1_; (try clear hb); (try clear hb2); (try clear hk); (try clear hi); (try clear ho0))))
 (try simp only [Act.put, List.setIfInBounds_toArray, List.set_cons_zero, List.set_cons_succ])
 go_cut [17] (fun v17 wc => ∃ (kq : Nat) (x17_2 : Bool), v17 = .bool x17_2 ∧ qa (xb.j0 kq t142 x17_2 = some r) ∧ qa (kq ≤ k) ∧ qa (Kd.R Kd.string 9 wc w.heap.size (fun _ => True) v143 t142) ∧ qa (Below w.heap.size w wc))
 case first =>
  have H := HC3.out
  clear HC3
  by_cases c5 : (t142.length : Int) < 2
  ·rw [if_pos c5] at H
   have c5b0 : decide ((t142.length : Int) < 2) = true := decide_eq_true c5
   have c5b1 : decide (t142.length < 2) = true := decide_eq_true (by omega)
   clear c5
   (first | rw [c5b0] | (simp only [qy, qz]; rw [c5b0]) | skip)
   have H' := qa.mk H
   clear H
   obtain ⟨Ao6, co6, eo6⟩ := Kd.ko HO144.out
   subst eo6
   go_wp2
   repeat (go_quiet (fail); try go_wp2)
   go_meet
   case rel => exact ⟨_, (true), (by first | rfl | (simp; done) | (simp [*]; done)), H', ⟨by first | omega | exact Nat.le_refl _⟩, ⟨by (with_reducible repeat (first | apply Kd.zi | apply Kd.ze | apply Kd.zv)); exact HO144.out⟩, ⟨by repeat (first | (with_reducible first | exact HB.out | apply qc | apply qb | apply qd) | exact HB.out)⟩⟩
  ·rw [if_neg c5] at H
   have c5b0 : decide ((t142.length : Int) < 2) = false := decide_eq_false c5
   have c5b1 : decide (t142.length < 2) = false := decide_eq_false (by omega)
   clear c5
   (first | rw [c5b0] | (simp only [qy, qz]; rw [c5b0]) | skip)
   have H' := qa.mk H
   clear H
   obtain ⟨Ao7, co7, eo7⟩ := Kd.ko HO144.out
   subst eo7
   go_wp2
   repeat (go_quiet (fail); try go_wp2)
   go_meet
   case rel => exact ⟨_, (decide ((t142.length : Int) > 12)), (by first | rfl | (simp; done) | (simp [*]; done)), H', ⟨by first | omega | exact Nat.le_refl _⟩, ⟨by (with_reducible repeat (first | apply Kd.zi | apply Kd.ze | apply Kd.zv)); exact HO144.out⟩, ⟨by repeat (first | (with_reducible first | exact HB.out | apply qc | apply qb | apply qd) | exact HB.out)⟩⟩
 case rest =>
  clear HC3
  (try clear p2); (try clear c3); (try clear c5); (try clear c5b0); try clear c5b1
  obtain ⟨kq, x17_2, rfl, HA, HJ2, HO_3, HB⟩ := hcut
  cases kq with
  | zero => exact absurd HA.out (by simp [xb.j0])
  | succ kj2 =>
   have H := HA.out
   clear HA
   simp only [xb.j0] at H
   by_cases c8 : x17_2 = true
   ·subst c8
    have H1 : (some ([] : List Int)) = some r := by rw [if_pos rfl] at H; exact H
    clear H
    have H := H1
    clear H1
    obtain rfl := Option.some.inj H
    go_wp2
    repeat (go_quiet (fail); try go_wp2)
    go_ret
    exact ⟨_, by first | rfl | (simp [qq, qp] <;> rfl) | (simp [*, qq, qp] <;> rfl), by first | exact Kd.R_nil _ _ _ _ _ | exact Kd.N_nil _ _ _ _ _ | exact Kd.V_nil _ _ _ _ _ | exact Kd.Q_nil _ _ _ _ _ | exact Kd.S_nil _ _ _ _ _, by first | exact rfl | exact (fun _ => rfl) | exact (fun h_ => absurd c17b0 (by rw [h_]; decide)), by repeat (first | (with_reducible first | exact HB.out | apply qc | apply qb | apply qd) | exact HB.out)⟩
   ·replace c8 := Bool.eq_false_iff.mpr c8
    subst c8
    have H1 : (xb.l0 kj2 ([] : List Int) t142 (t142.length : Int) 0) = some r := by rw [if_neg (show ¬ (false = true) by decide)] at H; exact H
    clear H
    have H := H1
    clear H1
    have H' := qa.mk H
    clear H
    obtain ⟨Ao9, co9, eo9⟩ := Kd.ko HO_3.out
    subst eo9
    go_wp2
    repeat (go_quiet (fail); try go_wp2)
    go_loopg [4, 20] kj2 (fun kq v4 v20 w' => ∃ (x4_2 : List Int) (x20_2 : Int), v20 = .int .i64 x20_2 ∧ qa (xb.l0 kq x4_2 t142 (t142.length : Int) x20_2 = some r) ∧ qa (kq ≤ kj2) ∧ qa (Kd.R (Kd.int .i64) 3 w' w.heap.size (fun _ => True) v4 x4_2) ∧ qa (Kd.R Kd.string 9 w' w.heap.size (fun _ => True) (.slice Ao9 t142.length co9) t142) ∧ qa (Below w.heap.size w w'))
    case atStart => exact ⟨(([] : List Int)), (0), (by first | rfl | (simp; done) | (simp [*]; done)), H', ⟨Nat.le_refl _⟩, ⟨by first | exact Kd.R_nil _ _ _ _ _ | exact Kd.N_nil _ _ _ _ _ | exact Kd.V_nil _ _ _ _ _ | exact Kd.Q_nil _ _ _ _ _ | exact Kd.S_nil _ _ _ _ _⟩, ⟨by (with_reducible repeat (first | apply Kd.zi | apply Kd.ze | apply Kd.zv)); exact HO_3.out⟩, ⟨by repeat (first | (with_reducible first | exact HB.out | apply qc | apply qb | apply qd) | exact HB.out)⟩⟩
    case round =>
     clear H'
     (try clear p2); (try clear c3); (try clear c5); (try clear c5b0); (try clear c5b1); (try clear c8); try clear p2
     obtain ⟨x4_2, x20_2, rfl, HA, HK2, HO_4, HO_18, HB⟩ := hrel
     cases gk with
     | zero => exact absurd HA.out (by simp [xb.l0])
     | succ k2 =>
      have H := HA.out
      clear HA
      simp only [xb.l0] at H
      by_cases c10 : x20_2 < (t142.length : Int)
      ·rw [if_pos c10] at H
       have c10b0 : decide (x20_2 < (t142.length : Int)) = true := decide_eq_true c10
       clear c10
       by_cases c11 : 0 ≤ x20_2
       ·rw [if_pos c11] at H
        have c11b0 : decide (0 ≤ x20_2) = true := decide_eq_true c11
        clear c11
        by_cases c12 : x20_2 < (t142.length : Int)
        ·rw [if_pos c12] at H
         have c12b0 : decide (x20_2 < (t142.length : Int)) = true := decide_eq_true c12
         clear c12
         replace H := Option.bind_eq_some_iff.mp H
         obtain ⟨t146, A130, H⟩ := H
         replace H : (if t146 < 0 then (some ([] : List Int)) else (if x4_2.length < 17592186044416 then (xb.l0 k2 (x4_2 ++ [t146]) t142 (t142.length : Int) (wrap64 (x20_2 + 1))) else (none))) = some r := H
         have A13 := qa.mk A130
         clear A130
         by_cases c14 : t146 < 0
         ·rw [if_pos c14] at H
          have c14b0 : decide (t146 < 0) = true := decide_eq_true c14
          clear c14
          obtain rfl := Option.some.inj H
          have p145 : 0 ≤ (x20_2 : Int) := of_decide_eq_true (by first | (with_reducible assumption) | assumption)
          have q145 : x20_2 < (t142.length : Int) := of_decide_eq_true (by first | (with_reducible assumption) | assumption)
          obtain ⟨ad145, e145, hx145_0⟩ := Kd.at_string (Kd.kg HO_18.out).2.2 x20_2 p145 q145
          cases e145
          replace p145 := eq_true p145
          replace q145 := eq_true q145
          go_wp2_with (first | (go_at_call 51; (with_reducible refine (xa.calls k2 (rdOf ByteArray.empty t142 x20_2) t146 _ A13.out).mono ?_); rintro e w' ⟨rfl, ⟨nd, rfl⟩⟩; (try first | exact ⟨rfl, _, World.drewN_drewN _ _ _⟩ | exact ⟨rfl, _, Eq.trans (World.drewN_drewN _ _ _) (congrArg (World.drewN _) (Nat.add_assoc _ _ _))⟩)))
          repeat (go_quiet (first | (go_at_call 51; (with_reducible refine (xa.calls k2 (rdOf ByteArray.empty t142 x20_2) t146 _ A13.out).mono ?_); rintro e w' ⟨rfl, ⟨nd, rfl⟩⟩; (try first | exact ⟨rfl, _, World.drewN_drewN _ _ _⟩ | exact ⟨rfl, _, Eq.trans (World.drewN_drewN _ _ _) (congrArg (World.drewN _) (Nat.add_assoc _ _ _))⟩))); try go_wp2_with (first | (go_at_call 51; (with_reducible refine (xa.calls k2 (rdOf ByteArray.empty t142 x20_2) t146 _ A13.out).mono ?_); rintro e w' ⟨rfl, ⟨nd, rfl⟩⟩; (try first | exact ⟨rfl, _, World.drewN_drewN _ _ _⟩ | exact ⟨rfl, _, Eq.trans (World.drewN_drewN _ _ _) (congrArg (World.drewN _) (Nat.add_assoc _ _ _))⟩))))
          go_ret
          exact ⟨_, by first | rfl | (simp [qq, qp] <;> rfl) | (simp [*, qq, qp] <;> rfl), by first | exact Kd.R_nil _ _ _ _ _ | exact Kd.N_nil _ _ _ _ _ | exact Kd.V_nil _ _ _ _ _ | exact Kd.Q_nil _ _ _ _ _ | exact Kd.S_nil _ _ _ _ _, by first | exact rfl | exact (fun _ => rfl) | exact (fun h_ => absurd c17b0 (by rw [h_]; decide)), by repeat (first | (with_reducible first | exact HB.out | apply qc | apply qb | apply qd) | exact HB.out)⟩
         ·rw [if_neg c14] at H
          have c14b0 : decide (t146 < 0) = false := decide_eq_false c14
          clear c14
          by_cases c15 : x4_2.length < 17592186044416
          ·rw [if_pos c15] at H
           have LMc15 := qa.mk c15
           clear c15
           obtain ⟨y147, hy147⟩ : ∃ y_ : List Int, y_ = (x4_2 ++ [t146]) := ⟨_, rfl⟩
           replace H : (xb.l0 k2 y147 t142 (t142.length : Int) (wrap64 (x20_2 + 1))) = some r := by first | (rw [hy147]; with_reducible exact H) | (have H2_ := (Option.bind_some _ _).symm.trans H; rw [hy147]; with_reducible exact H2_) | (have H2_ := (Option.bind_some _ _).symm.trans H; with_reducible exact H2_) | with_reducible exact H | (rw [hy147]; exact H) | exact H
           have Ny147 := qa.mk hy147
           clear hy147
           have H' := qa.mk H
           clear H
           have p145 : 0 ≤ (x20_2 : Int) := of_decide_eq_true (by first | (with_reducible assumption) | assumption)
           have q145 : x20_2 < (t142.length : Int) := of_decide_eq_true (by first | (with_reducible assumption) | assumption)
           obtain ⟨ad145, e145, hx145_0⟩ := Kd.at_string (Kd.kg HO_18.out).2.2 x20_2 p145 q145
           cases e145
           replace p145 := eq_true p145
           replace q145 := eq_true q145
           go_wp2_with (first | (go_at_call 51; (with_reducible refine (xa.calls k2 (rdOf ByteArray.empty t142 x20_2) t146 _ A13.out).mono ?_); rintro e w' ⟨rfl, ⟨nd, rfl⟩⟩; (try first | exact ⟨rfl, _, World.drewN_drewN _ _ _⟩ | exact ⟨rfl, _, Eq.trans (World.drewN_drewN _ _ _) (congrArg (World.drewN _) (Nat.add_assoc _ _ _))⟩)) | ((with_reducible refine xy (b := .append) (xs := #[.tmp 28, .tmp 30]) rfl ?_); (try (refine xl (by rfl) ?_; dsimp only)); at_builtin; refine Kd.kr (Kd.int .i64) (w0 := w) w.heap.size rfl (.tmp 28) (.tmp 30) 34 3 (.int .i64 0) 8 rfl Tryd.underlying34 info3 rfl (by decide) (by omega) u4 x4_2 t146 [.int .i64 t146] (fun _ => True) (fun _ => False) rfl rfl ?aP (fun _ hk => hk.elim) ?aF ?aO ?aB ?aS ?aL ?_; (case aP => exact rfl); (case aB => exact (by repeat (first | (with_reducible first | exact HB.out | apply qc | apply qb | apply qd) | exact HB.out))); (case aF => exact (fun _ _ => trivial)); (case aO => exact (by (with_reducible repeat (first | apply Kd.zi | apply Kd.ze | apply Kd.zv)); exact HO_4.out)); (case aS => exact (qm (by repeat (first | (with_reducible first | exact HB.out | apply qc | apply qb | apply qd) | exact HB.out)))); (case aL => have := LMc15.out; omega); intro v148 w16 ho hb hg hat; rw [← Ny147.out] at ho; have n0_ := qa.mk (Kd.R_over' (by (with_reducible repeat (first | apply Kd.zi | apply Kd.ze | apply Kd.zv)); exact HO_18.out) (Kd.R_typed (by (with_reducible repeat (first | apply Kd.zi | apply Kd.ze | apply Kd.zv)); exact HO_4.out)) (by decide) hg); have n1_ := qa.mk (hb); have n2_ := qa.mk (ho); clear HO_18; clear HB; clear HO_4; have HO_18 := n0_; have HB := n1_; have HO149 := n2_; clear n0_ n1_ n2_; clear ho hb hg hat))
           repeat (go_quiet (first | (go_at_call 51; (with_reducible refine (xa.calls k2 (rdOf ByteArray.empty t142 x20_2) t146 _ A13.out).mono ?_); rintro e w' ⟨rfl, ⟨nd, rfl⟩⟩; (try first | exact ⟨rfl, _, World.drewN_drewN _ _ _⟩ | exact ⟨rfl, _, Eq.trans (World.drewN_drewN _ _ _) (congrArg (World.drewN _) (Nat.add_assoc _ _ _))⟩)) | ((with_reducible refine xy (b := .append) (xs := #[.tmp 28, .tmp 30]) rfl ?_); (try (refine xl (by rfl) ?_; dsimp only)); at_builtin; refine Kd.kr (Kd.int .i64) (w0 := w) w.heap.size rfl (.tmp 28) (.tmp 30) 34 3 (.int .i64 0) 8 rfl Tryd.underlying34 info3 rfl (by decide) (by omega) u4 x4_2 t146 [.int .i64 t146] (fun _ => True) (fun _ => False) rfl rfl ?aP (fun _ hk => hk.elim) ?aF ?aO ?aB ?aS ?aL ?_; (case aP => exact rfl); (case aB => exact (by repeat (first | (with_reducible first | exact HB.out | apply qc | apply qb | apply qd) | exact HB.out))); (case aF => exact (fun _ _ => trivial)); (case aO => exact (by (with_reducible repeat (first | apply Kd.zi | apply Kd.ze | apply Kd.zv)); exact HO_4.out)); (case aS => exact (qm (by repeat (first | (with_reducible first | exact HB.out | apply qc | apply qb | apply qd) | exact HB.out)))); (case aL => have := LMc15.out; omega); intro v148 w16 ho hb hg hat; rw [← Ny147.out] at ho; have n0_ := qa.mk (Kd.R_over' (by (with_reducible repeat (first | apply Kd.zi | apply Kd.ze | apply Kd.zv)); exact HO_18.out) (Kd.R_typed (by (with_reducible repeat (first | apply Kd.zi | apply Kd.ze | apply Kd.zv)); exact HO_4.out)) (by decide) hg); have n1_ := qa.mk (hb); have n2_ := qa.mk (ho); clear HO_18; clear HB; clear HO_4; have HO_18 := n0_; have HB := n1_; have HO149 := n2_; clear n0_ n1_ n2_; clear ho hb hg hat)); try go_wp2_with (first | (go_at_call 51; (with_reducible refine (xa.calls k2 (rdOf ByteArray.empty t142 x20_2) t146 _ A13.out).mono ?_); rintro e w' ⟨rfl, ⟨nd, rfl⟩⟩; (try first | exact ⟨rfl, _, World.drewN_drewN _ _ _⟩ | exact ⟨rfl, _, Eq.trans (World.drewN_drewN _ _ _) (congrArg (World.drewN _) (Nat.add_assoc _ _ _))⟩)) | ((with_reducible refine xy (b := .append) (xs := #[.tmp 28, .tmp 30]) rfl ?_); (try (refine xl (by rfl) ?_; dsimp only)); at_builtin; refine Kd.kr (Kd.int .i64) (w0 := w) w.heap.size rfl (.tmp 28) (.tmp 30) 34 3 (.int .i64 0) 8 rfl Tryd.underlying34 info3 rfl (by decide) (by omega) u4 x4_2 t146 [.int .i64 t146] (fun _ => True) (fun _ => False) rfl rfl ?aP (fun _ hk => hk.elim) ?aF ?aO ?aB ?aS ?aL ?_; (case aP => exact rfl); (case aB => exact (by repeat (first | (with_reducible first | exact HB.out | apply qc | apply qb | apply qd) | exact HB.out))); (case aF => exact (fun _ _ => trivial)); (case aO => exact (by (with_reducible repeat (first | apply Kd.zi | apply Kd.ze | apply Kd.zv)); exact HO_4.out)); (case aS => exact (qm (by repeat (first | (with_reducible first | exact HB.out | apply qc | apply qb | apply qd) | exact HB.out)))); (case aL => have := LMc15.out; omega); intro v148 w16 ho hb hg hat; rw [← Ny147.out] at ho; have n0_ := qa.mk (Kd.R_over' (by (with_reducible repeat (first | apply Kd.zi | apply Kd.ze | apply Kd.zv)); exact HO_18.out) (Kd.R_typed (by (with_reducible repeat (first | apply Kd.zi | apply Kd.ze | apply Kd.zv)); exact HO_4.out)) (by decide) hg); have n1_ := qa.mk (hb); have n2_ := qa.mk (ho); clear HO_18; clear HB; clear HO_4; have HO_18 := n0_; have HB := n1_; have HO149 := n2_; clear n0_ n1_ n2_; clear ho hb hg hat)))
           go_roundg k2
           case measure => have := HJ2.out; have := HK2.out; omega
           case rel => exact ⟨(y147), (wrap64 (x20_2 + 1)), (by first | rfl | (simp; done) | (simp [*]; done)), H', ⟨by have := HJ2.out; have := HK2.out; omega⟩, ⟨by (with_reducible repeat (first | apply Kd.zi | apply Kd.ze | apply Kd.zv)); exact HO149.out⟩, ⟨by (with_reducible repeat (first | apply Kd.zi | apply Kd.ze | apply Kd.zv)); exact HO_18.out⟩, ⟨by repeat (first | (with_reducible first | exact HB.out | apply qc | apply qb | apply qd) | exact HB.out)⟩⟩
          ·rw [if_neg c15] at H
           exact absurd H (by simp)
        ·rw [if_neg c12] at H
         exact absurd H (by simp)
       ·rw [if_neg c11] at H
        exact absurd H (by simp)
      ·rw [if_neg c10] at H
       have c10b0 : decide (x20_2 < (t142.length : Int)) = false := decide_eq_false c10
       clear c10
       by_cases c17 : 0 < (x4_2.length : Int)
       ·rw [if_pos c17] at H
        have c17b0 : decide (0 < (x4_2.length : Int)) = true := decide_eq_true c17
        have c17b1 : decide (0 < x4_2.length) = true := decide_eq_true (by omega)
        clear c17
        by_cases c18 : 1 < (x4_2.length : Int)
        ·rw [if_pos c18] at H
         have c18b0 : decide (1 < (x4_2.length : Int)) = true := decide_eq_true c18
         have c18b1 : decide (1 < x4_2.length) = true := decide_eq_true (by omega)
         clear c18
         replace H := Option.bind_eq_some_iff.mp H
         obtain ⟨t152, A190, H⟩ := H
         replace H : (if t152 = true then (some x4_2) else (some ([] : List Int))) = some r := H
         have A19 := qa.mk A190
         clear A190
         by_cases c20 : t152 = true
         ·subst c20
          have H1 : (some x4_2) = some r := by rw [if_pos rfl] at H; exact H
          clear H
          have H := H1
          clear H1
          obtain rfl := Option.some.inj H
          obtain ⟨Ao21, co21, eo21⟩ := Kd.ko HO_4.out
          subst eo21
          have p150 : 0 ≤ (0 : Int) := (by omega)
          have q150 : 0 < (x4_2.length : Int) := of_decide_eq_true (by first | (with_reducible assumption) | assumption)
          obtain ⟨ad150, e150, hx150_0⟩ := Kd.at_int (Kd.kg HO_4.out).2.2 0 p150 q150
          cases e150
          have qi150 : (0 < x4_2.length) = True := eq_true (by omega)
          (try rw [show ((0 : Int)).toNat = 0 from rfl] at hx150_0)
          (try rw [Addr.add_zero'] at hx150_0)
          replace p150 := eq_true p150
          replace q150 := eq_true q150
          have p151 : 0 ≤ (1 : Int) := (by omega)
          have q151 : 1 < (x4_2.length : Int) := of_decide_eq_true (by first | (with_reducible assumption) | assumption)
          obtain ⟨ad151, e151, hx151_0⟩ := Kd.at_int (Kd.kg HO_4.out).2.2 1 p151 q151
          obtain rfl : ad150 = ad151 := (by injection e151)
          (try simp only [show (1 : Int).toNat = 1 from rfl, Nat.reduceMul, Nat.reduceEqDiff, Go.Addr.add, ↓reduceIte] at hx151_0)
          have qi151 : (1 < x4_2.length) = True := eq_true (by omega)
          (try rw [show ((1 : Int)).toNat = 1 from rfl] at hx151_0)
          replace p151 := eq_true p151
          replace q151 := eq_true q151
          go_wp2_with (first | (go_at_call 52; (with_reducible refine (oid_root.calls (rd x4_2 0) (rd x4_2 1) true _ A19.out).mono ?_); rintro e w' ⟨rfl, ⟨nd, rfl⟩⟩; (try first | exact ⟨rfl, _, World.drewN_drewN _ _ _⟩ | exact ⟨rfl, _, Eq.trans (World.drewN_drewN _ _ _) (congrArg (World.drewN _) (Nat.add_assoc _ _ _))⟩)))
          repeat (go_quiet (first | (go_at_call 52; (with_reducible refine (oid_root.calls (rd x4_2 0) (rd x4_2 1) true _ A19.out).mono ?_); rintro e w' ⟨rfl, ⟨nd, rfl⟩⟩; (try first | exact ⟨rfl, _, World.drewN_drewN _ _ _⟩ | exact ⟨rfl, _, Eq.trans (World.drewN_drewN _ _ _) (congrArg (World.drewN _) (Nat.add_assoc _ _ _))⟩))); try go_wp2_with (first | (go_at_call 52; (with_reducible refine (oid_root.calls (rd x4_2 0) (rd x4_2 1) true _ A19.out).mono ?_); rintro e w' ⟨rfl, ⟨nd, rfl⟩⟩; (try first | exact ⟨rfl, _, World.drewN_drewN _ _ _⟩ | exact ⟨rfl, _, Eq.trans (World.drewN_drewN _ _ _) (congrArg (World.drewN _) (Nat.add_assoc _ _ _))⟩))))
          go_ret
          exact ⟨_, by first | rfl | (simp [qq, qp] <;> rfl) | (simp [*, qq, qp] <;> rfl), by (with_reducible repeat (first | apply Kd.zi | apply Kd.ze | apply Kd.zv)); exact HO_4.out, by first | exact rfl | exact (fun _ => rfl) | exact (fun h_ => absurd c17b0 (by rw [h_]; decide)), by repeat (first | (with_reducible first | exact HB.out | apply qc | apply qb | apply qd) | exact HB.out)⟩
         ·replace c20 := Bool.eq_false_iff.mpr c20
          subst c20
          have H1 : (some ([] : List Int)) = some r := by rw [if_neg (show ¬ (false = true) by decide)] at H; exact H
          clear H
          have H := H1
          clear H1
          obtain rfl := Option.some.inj H
          obtain ⟨Ao22, co22, eo22⟩ := Kd.ko HO_4.out
          subst eo22
          have p150 : 0 ≤ (0 : Int) := (by omega)
          have q150 : 0 < (x4_2.length : Int) := of_decide_eq_true (by first | (with_reducible assumption) | assumption)
          obtain ⟨ad150, e150, hx150_0⟩ := Kd.at_int (Kd.kg HO_4.out).2.2 0 p150 q150
          cases e150
          have qi150 : (0 < x4_2.length) = True := eq_true (by omega)
          (try rw [show ((0 : Int)).toNat = 0 from rfl] at hx150_0)
          (try rw [Addr.add_zero'] at hx150_0)
          replace p150 := eq_true p150
          replace q150 := eq_true q150
          have p151 : 0 ≤ (1 : Int) := (by omega)
          have q151 : 1 < (x4_2.length : Int) := of_decide_eq_true (by first | (with_reducible assumption) | assumption)
          obtain ⟨ad151, e151, hx151_0⟩ := Kd.at_int (Kd.kg HO_4.out).2.2 1 p151 q151
          obtain rfl : ad150 = ad151 := (by injection e151)
          (try simp only [show (1 : Int).toNat = 1 from rfl, Nat.reduceMul, Nat.reduceEqDiff, Go.Addr.add, ↓reduceIte] at hx151_0)
          have qi151 : (1 < x4_2.length) = True := eq_true (by omega)
          (try rw [show ((1 : Int)).toNat = 1 from rfl] at hx151_0)
          replace p151 := eq_true p151
          replace q151 := eq_true q151
          go_wp2_with (first | (go_at_call 52; (with_reducible refine (oid_root.calls (rd x4_2 0) (rd x4_2 1) false _ A19.out).mono ?_); rintro e w' ⟨rfl, ⟨nd, rfl⟩⟩; (try first | exact ⟨rfl, _, World.drewN_drewN _ _ _⟩ | exact ⟨rfl, _, Eq.trans (World.drewN_drewN _ _ _) (congrArg (World.drewN _) (Nat.add_assoc _ _ _))⟩)))
          repeat (go_quiet (first | (go_at_call 52; (with_reducible refine (oid_root.calls (rd x4_2 0) (rd x4_2 1) false _ A19.out).mono ?_); rintro e w' ⟨rfl, ⟨nd, rfl⟩⟩; (try first | exact ⟨rfl, _, World.drewN_drewN _ _ _⟩ | exact ⟨rfl, _, Eq.trans (World.drewN_drewN _ _ _) (congrArg (World.drewN _) (Nat.add_assoc _ _ _))⟩))); try go_wp2_with (first | (go_at_call 52; (with_reducible refine (oid_root.calls (rd x4_2 0) (rd x4_2 1) false _ A19.out).mono ?_); rintro e w' ⟨rfl, ⟨nd, rfl⟩⟩; (try first | exact ⟨rfl, _, World.drewN_drewN _ _ _⟩ | exact ⟨rfl, _, Eq.trans (World.drewN_drewN _ _ _) (congrArg (World.drewN _) (Nat.add_assoc _ _ _))⟩))))
          go_ret
          exact ⟨_, by first | rfl | (simp [qq, qp] <;> rfl) | (simp [*, qq, qp] <;> rfl), by first | exact Kd.R_nil _ _ _ _ _ | exact Kd.N_nil _ _ _ _ _ | exact Kd.V_nil _ _ _ _ _ | exact Kd.Q_nil _ _ _ _ _ | exact Kd.S_nil _ _ _ _ _, by first | exact rfl | exact (fun _ => rfl) | exact (fun h_ => absurd c17b0 (by rw [h_]; decide)), by repeat (first | (with_reducible first | exact HB.out | apply qc | apply qb | apply qd) | exact HB.out)⟩
        ·rw [if_neg c18] at H
         exact absurd H (by simp)
       ·rw [if_neg c17] at H
        exact absurd H (by simp)
end Go.Proofs.YtjhlinifnjoefaaDoor.C
end
section
namespace Go.Proofs.YtjhlinifnjoefaaDoor.C
open Go.RowKit Go.Proofs.YtjhlinifnjoefaaDoorW.PrintWords Go.Proofs.YtjhlinifnjoefaaDoorW.PrintLast Go.Proofs.YtjhlinifnjoefaaDoorW.PrintMore
attribute [local go_sem] xr xp xw xx xf xe xq xo
set_option linter.unusedVariables false
set_option linter.unusedSimpArgs false
def xh.f (k : Nat) (a0 : ByteArray) : Option Bool := (xb.f k a0).bind fun l => some (!l.isEmpty)
theorem xh.mono : ∀ a0 k, LeO (xh.f k a0) (xh.f (k + 1) a0) := by
 intro a0 k
 unfold xh.f
 exact LeO.bind (xb.mono a0 k) (fun _ => LeO.refl _)
theorem row_not_nil {w : World} {base e : Nat} {ok : Nat → Prop} {v : Value} {l : List Int} (h : Kd.R (Kd.int .i64) e w base ok v l) (hl : l ≠ []) : ∃ ad n c, v = .slice (some ad) n c := by
 obtain ⟨A, c, rfl⟩ := Kd.ko h
 have hc := (Kd.kg h).2.2
 obtain ⟨ad, rfl, _⟩ := hc.2.2 (List.length_pos_iff.2 hl)
 exact ⟨ad, _, _, rfl⟩
theorem xh.calls (k : Nat) (a0 : ByteArray) (r : Bool) (w : World) (hG : LibHeld w) (h : xh.f k a0 = some r) :
  Calls Tryd.prog 26 #[.string a0] w fun e w' => e = .returned (.bool r) ∧ Below w.heap.size w w' := by
 unfold xh.f at h
 obtain ⟨l, hl, h⟩ := Option.bind_eq_some_iff.1 h
 obtain rfl := Option.some.inj h
 clear h
 have HG := qa.mk hG
 have HL := qa.mk hl
 clear hG hl
 have hn := fun W a n c => run_neq_slice_nil_any (P := Tryd.prog) W 34 3 a n c 0 0 Tryd.underlying34
 rcases hz : l with _ | ⟨x, l'⟩
 ·have HZ := qa.mk hz
  clear hz
  go_enter Tryd.func26, Tryd.ntmps26
  go_wp2_with (go_at_call 34; refine (xb.calls k _ l _ HG.out HL.out).mono ?_; rintro e w' ⟨v, rfl, ho, hv, hb⟩; (have e_ := hv HZ.out; subst e_); clear ho hv; have HB := qa.mk hb; clear hb)
  go_ret
  exact ⟨rfl, HB.out⟩
 ·have HZ := qa.mk hz
  clear hz
  go_enter Tryd.func26, Tryd.ntmps26
  go_wp2_with (go_at_call 34; refine (xb.calls k _ l _ HG.out HL.out).mono ?_; rintro e w' ⟨v, rfl, ho, hv, hb⟩; (obtain ⟨ad, n, c, rfl⟩ := row_not_nil ho (by rw [HZ.out]; simp)); clear ho hv; have HB := qa.mk hb; clear hb)
  go_ret
  exact ⟨rfl, HB.out⟩
def kn.f (a0 : Int) : Option (Bool) := if a0 ≥ 97 then (if a0 ≤ 122 then (some true) else (if a0 ≥ 65 then (if a0 ≤ 90 then (some true) else (if a0 ≥ 48 then (some (decide (a0 ≤ 57))) else (some false))) else (if a0 ≥ 48 then (some (decide (a0 ≤ 57))) else (some false)))) else (if a0 ≥ 65 then (if a0 ≤ 90 then (some true) else (if a0 ≥ 48 then (some (decide (a0 ≤ 57))) else (some false))) else (if a0 ≥ 48 then (some (decide (a0 ≤ 57))) else (some false)))
set_option maxHeartbeats 8000000 in
set_option maxRecDepth 100000 in
theorem kn.calls (a0 : Int) (r : Bool) (w : World) (h : kn.f a0 = some r) :
  Calls Tryd.prog 38 #[.int .u8 a0] w fun e w' => e = .returned (.bool r) ∧ zq w w' := by
 have H : (if a0 ≥ 97 then (if a0 ≤ 122 then (some true) else (if a0 ≥ 65 then (if a0 ≤ 90 then (some true) else (if a0 ≥ 48 then (some (decide (a0 ≤ 57))) else (some false))) else (if a0 ≥ 48 then (some (decide (a0 ≤ 57))) else (some false)))) else (if a0 ≥ 65 then (if a0 ≤ 90 then (some true) else (if a0 ≥ 48 then (some (decide (a0 ≤ 57))) else (some false))) else (if a0 ≥ 48 then (some (decide (a0 ≤ 57))) else (some false)))) = some r := h
 clear h
 by_cases c2 : a0 ≥ 97
 ·rw [if_pos c2] at H
  have c2b0 : decide (97 ≤ a0) = true := decide_eq_true c2
  clear c2
  by_cases c3 : a0 ≤ 122
  ·rw [if_pos c3] at H
   have c3b0 : decide (a0 ≤ 122) = true := decide_eq_true c3
   clear c3
   obtain rfl := Option.some.inj H
   go_enter Tryd.func38, Tryd.ntmps38
   go_wp2
   go_ret
   exact ⟨by first | rfl | (simp; done) | (simp [*]; done), by repeat (first | exact zq.refl _ | apply zq.step)⟩
  ·rw [if_neg c3] at H
   have c3b0 : decide (a0 ≤ 122) = false := decide_eq_false c3
   clear c3
   by_cases c4 : a0 ≥ 65
   ·rw [if_pos c4] at H
    have c4b0 : decide (65 ≤ a0) = true := decide_eq_true c4
    clear c4
    by_cases c5 : a0 ≤ 90
    ·rw [if_pos c5] at H
     have c5b0 : decide (a0 ≤ 90) = true := decide_eq_true c5
     clear c5
     obtain rfl := Option.some.inj H
     go_enter Tryd.func38, Tryd.ntmps38
     go_wp2
     go_ret
     exact ⟨by first | rfl | (simp; done) | (simp [*]; done), by repeat (first | exact zq.refl _ | apply zq.step)⟩
    ·rw [if_neg c5] at H
     have c5b0 : decide (a0 ≤ 90) = false := decide_eq_false c5
     clear c5
     by_cases c6 : a0 ≥ 48
     ·rw [if_pos c6] at H
      have c6b0 : decide (48 ≤ a0) = true := decide_eq_true c6
      clear c6
      obtain rfl := Option.some.inj H
      go_enter Tryd.func38, Tryd.ntmps38
      go_wp2
      go_ret
      exact ⟨by first | rfl | (simp; done) | (simp [*]; done), by repeat (first | exact zq.refl _ | apply zq.step)⟩
     ·rw [if_neg c6] at H
      have c6b0 : decide (48 ≤ a0) = false := decide_eq_false c6
      clear c6
      obtain rfl := Option.some.inj H
      go_enter Tryd.func38, Tryd.ntmps38
      go_wp2
      go_ret
      exact ⟨by first | rfl | (simp; done) | (simp [*]; done), by repeat (first | exact zq.refl _ | apply zq.step)⟩
   ·rw [if_neg c4] at H
    have c4b0 : decide (65 ≤ a0) = false := decide_eq_false c4
    clear c4
    by_cases c7 : a0 ≥ 48
    ·rw [if_pos c7] at H
     have c7b0 : decide (48 ≤ a0) = true := decide_eq_true c7
     clear c7
     obtain rfl := Option.some.inj H
     go_enter Tryd.func38, Tryd.ntmps38
     go_wp2
     go_ret
     exact ⟨by first | rfl | (simp; done) | (simp [*]; done), by repeat (first | exact zq.refl _ | apply zq.step)⟩
    ·rw [if_neg c7] at H
     have c7b0 : decide (48 ≤ a0) = false := decide_eq_false c7
     clear c7
     obtain rfl := Option.some.inj H
     go_enter Tryd.func38, Tryd.ntmps38
     go_wp2
     go_ret
     exact ⟨by first | rfl | (simp; done) | (simp [*]; done), by repeat (first | exact zq.refl _ | apply zq.step)⟩
 ·rw [if_neg c2] at H
  have c2b0 : decide (97 ≤ a0) = false := decide_eq_false c2
  clear c2
  by_cases c8 : a0 ≥ 65
  ·rw [if_pos c8] at H
   have c8b0 : decide (65 ≤ a0) = true := decide_eq_true c8
   clear c8
   by_cases c9 : a0 ≤ 90
   ·rw [if_pos c9] at H
    have c9b0 : decide (a0 ≤ 90) = true := decide_eq_true c9
    clear c9
    obtain rfl := Option.some.inj H
    go_enter Tryd.func38, Tryd.ntmps38
    go_wp2
    go_ret
    exact ⟨by first | rfl | (simp; done) | (simp [*]; done), by repeat (first | exact zq.refl _ | apply zq.step)⟩
   ·rw [if_neg c9] at H
    have c9b0 : decide (a0 ≤ 90) = false := decide_eq_false c9
    clear c9
    by_cases c10 : a0 ≥ 48
    ·rw [if_pos c10] at H
     have c10b0 : decide (48 ≤ a0) = true := decide_eq_true c10
     clear c10
     obtain rfl := Option.some.inj H
     go_enter Tryd.func38, Tryd.ntmps38
     go_wp2
     go_ret
     exact ⟨by first | rfl | (simp; done) | (simp [*]; done), by repeat (first | exact zq.refl _ | apply zq.step)⟩
    ·rw [if_neg c10] at H
     have c10b0 : decide (48 ≤ a0) = false := decide_eq_false c10
     clear c10
     obtain rfl := Option.some.inj H
     go_enter Tryd.func38, Tryd.ntmps38
     go_wp2
     go_ret
     exact ⟨by first | rfl | (simp; done) | (simp [*]; done), by repeat (first | exact zq.refl _ | apply zq.step)⟩
  ·rw [if_neg c8] at H
   have c8b0 : decide (65 ≤ a0) = false := decide_eq_false c8
   clear c8
   by_cases c11 : a0 ≥ 48
   ·rw [if_pos c11] at H
    have c11b0 : decide (48 ≤ a0) = true := decide_eq_true c11
    clear c11
    obtain rfl := Option.some.inj H
    go_enter Tryd.func38, Tryd.ntmps38
    go_wp2
    go_ret
    exact ⟨by first | rfl | (simp; done) | (simp [*]; done), by repeat (first | exact zq.refl _ | apply zq.step)⟩
   ·rw [if_neg c11] at H
    have c11b0 : decide (48 ≤ a0) = false := decide_eq_false c11
    clear c11
    obtain rfl := Option.some.inj H
    go_enter Tryd.func38, Tryd.ntmps38
    go_wp2
    go_ret
    exact ⟨by first | rfl | (simp; done) | (simp [*]; done), by repeat (first | exact zq.refl _ | apply zq.step)⟩
def strings_IndexByte.f (a0 : ByteArray) (a1 : Int) : Option Int := some (Lib.indexByte a0.data.toList a1.toNat.toUInt8)
theorem strings_IndexByte.calls (a0 : ByteArray) (a1 : Int) (r : Int) (w : World) (h : strings_IndexByte.f a0 a1 = some r) :
  Calls Tryd.prog 39 #[.string a0, .int .u8 a1] w fun e w' => e = .returned (.int .i64 r) ∧ zq w w' := by
 obtain rfl := Option.some.inj h
 exact (Tryd.strings_IndexByte a0 a1 w).mono fun e w' ⟨he, hw⟩ => ⟨he, hw ▸ zq.refl _⟩
def text_Valid_1.f (a0 : Int) : Option (Bool) := (kn.f a0).bind fun t153 => (if t153 = true then (some true) else ((strings_IndexByte.f (⟨#[32, 39, 40, 41, 43, 44, 45, 46, 47, 58, 61, 63]⟩ : ByteArray) a0).bind fun t154 => (some (decide (t154 ≥ 0)))))
set_option maxHeartbeats 8000000 in
set_option maxRecDepth 100000 in
theorem text_Valid_1.calls (a0 : Int) (r : Bool) (w : World) (h : text_Valid_1.f a0 = some r) :
  Calls Tryd.prog 37 #[.int .u8 a0] w fun e w' => e = .returned (.bool r) ∧ zq w w' := by
 have H : ((kn.f a0).bind fun t153 => (if t153 = true then (some true) else ((strings_IndexByte.f (⟨#[32, 39, 40, 41, 43, 44, 45, 46, 47, 58, 61, 63]⟩ : ByteArray) a0).bind fun t154 => (some (decide (t154 ≥ 0)))))) = some r := h
 clear h
 replace H := Option.bind_eq_some_iff.mp H
 obtain ⟨t153, A20, H⟩ := H
 replace H : (if t153 = true then (some true) else ((strings_IndexByte.f (⟨#[32, 39, 40, 41, 43, 44, 45, 46, 47, 58, 61, 63]⟩ : ByteArray) a0).bind fun t154 => (some (decide (t154 ≥ 0))))) = some r := H
 have A2 := qa.mk A20
 clear A20
 by_cases c3 : t153 = true
 ·subst c3
  have H1 : (some true) = some r := by rw [if_pos rfl] at H; exact H
  clear H
  have H := H1
  clear H1
  obtain rfl := Option.some.inj H
  go_enter Tryd.func37, Tryd.ntmps37
  go_wp2_with (first | ((with_reducible refine zk (f := 38) rfl ?_); refine xv (some 4) rfl rfl Tryd.func38 (by kernel_rfl) rfl #[.int .u8 a0] rfl (by (try simp only [List.map_toArray, List.map_cons, List.map_nil]); first | done | rfl | (simp only [List.length_drop, List.length_take]; rfl)) ?_; (with_reducible refine (kn.calls a0 true _ A2.out).mono ?_); rintro e w' ⟨rfl, ⟨nd, rfl⟩⟩; refine ⟨_, rfl, ?_⟩))
  go_ret
  exact ⟨by first | rfl | (simp; done) | (simp [*]; done), by repeat (first | exact zq.refl _ | apply zq.step)⟩
 ·replace c3 := Bool.eq_false_iff.mpr c3
  subst c3
  have H1 : ((strings_IndexByte.f (⟨#[32, 39, 40, 41, 43, 44, 45, 46, 47, 58, 61, 63]⟩ : ByteArray) a0).bind fun t154 => (some (decide (t154 ≥ 0)))) = some r := by rw [if_neg (show ¬ (false = true) by decide)] at H; exact H
  clear H
  have H := H1
  clear H1
  replace H := Option.bind_eq_some_iff.mp H
  obtain ⟨t154, A40, H⟩ := H
  replace H : (some (decide (t154 ≥ 0))) = some r := H
  have A4 := qa.mk A40
  clear A40
  obtain rfl := Option.some.inj H
  go_enter Tryd.func37, Tryd.ntmps37
  go_wp2_with (first | ((with_reducible refine zk (f := 38) rfl ?_); refine xv (some 4) rfl rfl Tryd.func38 (by kernel_rfl) rfl #[.int .u8 a0] rfl (by (try simp only [List.map_toArray, List.map_cons, List.map_nil]); first | done | rfl | (simp only [List.length_drop, List.length_take]; rfl)) ?_; (with_reducible refine (kn.calls a0 false _ A2.out).mono ?_); rintro e w' ⟨rfl, ⟨nd, rfl⟩⟩; refine ⟨_, rfl, ?_⟩) | (go_at_call 39; (with_reducible refine (strings_IndexByte.calls (⟨#[32, 39, 40, 41, 43, 44, 45, 46, 47, 58, 61, 63]⟩ : ByteArray) a0 t154 _ A4.out).mono ?_); rintro e w' ⟨rfl, ⟨nd, rfl⟩⟩))
  go_ret
  exact ⟨by first | rfl | (simp; done) | (simp [*]; done), by repeat (first | exact zq.refl _ | apply zq.step)⟩
def text_Valid_2.f (a0 : Int) : Option (Bool) := if a0 ≥ 32 then (some (decide (a0 ≤ 126))) else (some false)
set_option maxHeartbeats 8000000 in
set_option maxRecDepth 100000 in
theorem text_Valid_2.calls (a0 : Int) (r : Bool) (w : World) (h : text_Valid_2.f a0 = some r) :
  Calls Tryd.prog 40 #[.int .u8 a0] w fun e w' => e = .returned (.bool r) ∧ zq w w' := by
 have H : (if a0 ≥ 32 then (some (decide (a0 ≤ 126))) else (some false)) = some r := h
 clear h
 by_cases c2 : a0 ≥ 32
 ·rw [if_pos c2] at H
  have c2b0 : decide (32 ≤ a0) = true := decide_eq_true c2
  clear c2
  obtain rfl := Option.some.inj H
  go_enter Tryd.func40, Tryd.ntmps40
  go_wp2
  go_ret
  exact ⟨by first | rfl | (simp; done) | (simp [*]; done), by repeat (first | exact zq.refl _ | apply zq.step)⟩
 ·rw [if_neg c2] at H
  have c2b0 : decide (32 ≤ a0) = false := decide_eq_false c2
  clear c2
  obtain rfl := Option.some.inj H
  go_enter Tryd.func40, Tryd.ntmps40
  go_wp2
  go_ret
  exact ⟨by first | rfl | (simp; done) | (simp [*]; done), by repeat (first | exact zq.refl _ | apply zq.step)⟩
def stringslite_HasPrefix.f (a0 : ByteArray) (a1 : ByteArray) : Option (Bool) := if (a0.size : Int) ≥ (a1.size : Int) then (if 0 ≤ (a1.size : Int) then (if (a1.size : Int) ≤ (a0.size : Int) then (some ((a0.extract 0 ((a1.size : Int) : Int).toNat).toList == a1.toList)) else (none)) else (none)) else (some false)
set_option maxHeartbeats 8000000 in
set_option maxRecDepth 100000 in
theorem stringslite_HasPrefix.calls (a0 : ByteArray) (a1 : ByteArray) (r : Bool) (w : World) (h : stringslite_HasPrefix.f a0 a1 = some r) :
  Calls Tryd.prog 62 #[.string a0, .string a1] w fun e w' => e = .returned (.bool r) ∧ zq w w' := by
 have H : (if (a0.size : Int) ≥ (a1.size : Int) then (if 0 ≤ (a1.size : Int) then (if (a1.size : Int) ≤ (a0.size : Int) then (some ((a0.extract 0 ((a1.size : Int) : Int).toNat).toList == a1.toList)) else (none)) else (none)) else (some false)) = some r := h
 clear h
 by_cases c3 : (a0.size : Int) ≥ (a1.size : Int)
 ·rw [if_pos c3] at H
  have c3b0 : decide ((a1.size : Int) ≤ (a0.size : Int)) = true := decide_eq_true c3
  have c3b1 : decide (a1.size ≤ a0.size) = true := decide_eq_true (Int.ofNat_le.mp c3)
  clear c3
  by_cases c4 : 0 ≤ (a1.size : Int)
  ·rw [if_pos c4] at H
   have c4b0 := eq_true c4
   have c4b1 : decide (0 ≤ (a1.size : Int)) = true := decide_eq_true c4
   clear c4
   by_cases c5 : (a1.size : Int) ≤ (a0.size : Int)
   ·rw [if_pos c5] at H
    have c5b0 := eq_true c5
    have c5b1 : decide ((a1.size : Int) ≤ (a0.size : Int)) = true := decide_eq_true c5
    clear c5
    obtain rfl := Option.some.inj H
    go_enter Tryd.func62, Tryd.ntmps62
    go_wp2
    go_ret
    exact ⟨by first | rfl | (simp; done) | (simp [*]; done), by repeat (first | exact zq.refl _ | apply zq.step)⟩
   ·rw [if_neg c5] at H
    exact absurd H (by simp)
  ·rw [if_neg c4] at H
   exact absurd H (by simp)
 ·rw [if_neg c3] at H
  have c3b0 : decide ((a1.size : Int) ≤ (a0.size : Int)) = false := decide_eq_false c3
  have c3b1 : decide (a1.size ≤ a0.size) = false := decide_eq_false (fun h => c3 (Int.ofNat_le.mpr h))
  clear c3
  obtain rfl := Option.some.inj H
  go_enter Tryd.func62, Tryd.ntmps62
  go_wp2
  go_ret
  exact ⟨by first | rfl | (simp; done) | (simp [*]; done), by repeat (first | exact zq.refl _ | apply zq.step)⟩
def strings_HasPrefix.f (a0 : ByteArray) (a1 : ByteArray) : Option (Bool) := (stringslite_HasPrefix.f a0 a1).bind fun t155 => (some t155)
set_option maxHeartbeats 8000000 in
set_option maxRecDepth 100000 in
theorem strings_HasPrefix.calls (a0 : ByteArray) (a1 : ByteArray) (r : Bool) (w : World) (h : strings_HasPrefix.f a0 a1 = some r) :
  Calls Tryd.prog 53 #[.string a0, .string a1] w fun e w' => e = .returned (.bool r) ∧ zq w w' := by
 have H : ((stringslite_HasPrefix.f a0 a1).bind fun t155 => (some t155)) = some r := h
 clear h
 replace H := Option.bind_eq_some_iff.mp H
 obtain ⟨t155, A30, H⟩ := H
 replace H : (some t155) = some r := H
 have A3 := qa.mk A30
 clear A30
 obtain rfl := Option.some.inj H
 go_enter Tryd.func53, Tryd.ntmps53
 go_wp2_with (first | ((with_reducible refine zk (f := 62) rfl ?_); refine xv (some 7) rfl rfl Tryd.func62 (by kernel_rfl) rfl #[.string a0, .string a1] rfl (by (try simp only [List.map_toArray, List.map_cons, List.map_nil]); first | done | rfl | (simp only [List.length_drop, List.length_take]; rfl)) ?_; (with_reducible refine (stringslite_HasPrefix.calls a0 a1 t155 _ A3.out).mono ?_); rintro e w' ⟨rfl, ⟨nd, rfl⟩⟩; refine ⟨_, rfl, ?_⟩))
 go_ret
 exact ⟨by first | rfl | (simp; done) | (simp [*]; done), by repeat (first | exact zq.refl _ | apply zq.step)⟩
end Go.Proofs.YtjhlinifnjoefaaDoor.C
end
section
namespace Go.Proofs.YtjhlinifnjoefaaDoor.C
open Go.RowKit Go.Proofs.YtjhlinifnjoefaaDoorW.PrintWords Go.Proofs.YtjhlinifnjoefaaDoorW.PrintLast Go.Proofs.YtjhlinifnjoefaaDoorW.PrintMore
attribute [local go_sem] xr xp xw xx xf xe xq xo
set_option linter.unusedVariables false
set_option linter.unusedSimpArgs false
theorem bytesOf_at (s : ByteArray) (k : Nat) (h : k < s.size) : (bytesOf s)[k]? = some ((s[k]'h).toNat : Int) := by
 have h' : k < s.data.toList.length := by rw [data_length]; exact h
 unfold bytesOf
 rw [List.getElem?_map, List.getElem?_eq_getElem h']
 rfl
theorem all_take_succ (p : Int → Bool) (l : List Int) (k : Nat) (x : Int) (hx : l[k]? = some x) (h : (l.take k).all p = true) (hp : p x = true) : (l.take (k + 1)).all p = true := by
 rw [List.take_add_one, hx, List.all_append, h]
 simp [hp]
theorem all_no (p : Int → Bool) (l : List Int) (k : Nat) (x : Int) (hx : l[k]? = some x) (hp : p x = false) : l.all p = false := by
 rw [List.all_eq_false]
 exact ⟨x, List.mem_of_getElem? hx, by simp [hp]⟩
set_option maxRecDepth 100000 in
set_option maxHeartbeats 1000000 in
theorem text_all_1 (p : Int → Bool) (s : ByteArray) (w : World) (hs : s.size ≤ 4294967280)
  (hp : ∀ (c : Int) (W : World), Calls Tryd.prog 37 #[.int .u8 c] W fun e w' => e = .returned (.bool (p c)) ∧ zq W w') :
  Calls Tryd.prog 36 #[.string s, .func (.func 37) #[] #[]] w fun e w' => e = .returned (.bool ((bytesOf s).all p)) ∧ zq w w' := by
 go_enter Tryd.func36, Tryd.ntmps36
 go_wp2
 go_loopw [5] (fun i w' => ∃ k : Nat, k ≤ s.size ∧ i = .int .i64 k ∧ ((bytesOf s).take k).all p = true ∧ zq w w') (fun i _ => s.size - (intOf i).toNat)
 case atStart => exact ⟨0, Nat.zero_le _, rfl, rfl, zq.refl _⟩
 case round =>
  obtain ⟨k, hk, rfl, hall, hd⟩ := hrel
  have HD := qa.mk hd
  have HA := qa.mk hall
  clear hd hall
  by_cases hlt : k < s.size
  ·have HX := qa.mk (bytesOf_at s k hlt)
   cases hb : p (s[k].toNat : Int)
   ·have HB := qa.mk hb
    go_wp2_with (go_at_call 37; refine (hp _ _).mono ?_; rintro e w' ⟨rfl, n, rfl⟩)
    go_ret
    exact ⟨congrArg (fun b => Ending.returned (Value.bool b)) (all_no p _ k _ HX.out HB.out).symm, HD.out.step _⟩
   ·have HB := qa.mk hb
    go_wp2_with (go_at_call 37; refine (hp _ _).mono ?_; rintro e w' ⟨rfl, n, rfl⟩)
    go_roundw
    case rel => exact ⟨k + 1, by omega, by go_num, all_take_succ p _ k _ HX.out HA.out HB.out, HD.out.step _⟩
    case measure => simp [intOf]; omega
  ·obtain rfl : k = s.size := by omega
   have he : (bytesOf s).all p = true := by
    have := HA.out
    rwa [List.take_of_length_le (by rw [bytesOf_length]; exact Nat.le_refl _)] at this
   have HE := qa.mk he
   clear he
   go_wp2
   go_ret
   exact ⟨congrArg (fun b => Ending.returned (Value.bool b)) HE.out.symm, HD.out⟩
set_option maxRecDepth 100000 in
set_option maxHeartbeats 1000000 in
theorem text_all_2 (p : Int → Bool) (s : ByteArray) (w : World) (hs : s.size ≤ 4294967280)
  (hp : ∀ (c : Int) (W : World), Calls Tryd.prog 40 #[.int .u8 c] W fun e w' => e = .returned (.bool (p c)) ∧ zq W w') :
  Calls Tryd.prog 36 #[.string s, .func (.func 40) #[] #[]] w fun e w' => e = .returned (.bool ((bytesOf s).all p)) ∧ zq w w' := by
 go_enter Tryd.func36, Tryd.ntmps36
 go_wp2
 go_loopw [5] (fun i w' => ∃ k : Nat, k ≤ s.size ∧ i = .int .i64 k ∧ ((bytesOf s).take k).all p = true ∧ zq w w') (fun i _ => s.size - (intOf i).toNat)
 case atStart => exact ⟨0, Nat.zero_le _, rfl, rfl, zq.refl _⟩
 case round =>
  obtain ⟨k, hk, rfl, hall, hd⟩ := hrel
  have HD := qa.mk hd
  have HA := qa.mk hall
  clear hd hall
  by_cases hlt : k < s.size
  ·have HX := qa.mk (bytesOf_at s k hlt)
   cases hb : p (s[k].toNat : Int)
   ·have HB := qa.mk hb
    go_wp2_with (go_at_call 40; refine (hp _ _).mono ?_; rintro e w' ⟨rfl, n, rfl⟩)
    go_ret
    exact ⟨congrArg (fun b => Ending.returned (Value.bool b)) (all_no p _ k _ HX.out HB.out).symm, HD.out.step _⟩
   ·have HB := qa.mk hb
    go_wp2_with (go_at_call 40; refine (hp _ _).mono ?_; rintro e w' ⟨rfl, n, rfl⟩)
    go_roundw
    case rel => exact ⟨k + 1, by omega, by go_num, all_take_succ p _ k _ HX.out HA.out HB.out, HD.out.step _⟩
    case measure => simp [intOf]; omega
  ·obtain rfl : k = s.size := by omega
   have he : (bytesOf s).all p = true := by
    have := HA.out
    rwa [List.take_of_length_le (by rw [bytesOf_length]; exact Nat.le_refl _)] at this
   have HE := qa.mk he
   clear he
   go_wp2
   go_ret
   exact ⟨congrArg (fun b => Ending.returned (Value.bool b)) HE.out.symm, HD.out⟩
theorem text_letter_some (c : Int) : ∃ b, kn.f c = some b := by
 unfold kn.f
 repeat' split
 all_goals exact ⟨_, rfl⟩
theorem text_Valid_1_some (c : Int) : ∃ b, text_Valid_1.f c = some b := by
 unfold text_Valid_1.f
 obtain ⟨b, hb⟩ := text_letter_some c
 rw [hb, Option.bind_some]
 split
 ·exact ⟨_, rfl⟩
 ·exact ⟨_, rfl⟩
theorem text_Valid_2_some (c : Int) : ∃ b, text_Valid_2.f c = some b := by
 unfold text_Valid_2.f
 split
 all_goals exact ⟨_, rfl⟩
def text_p1 (c : Int) : Bool := (text_Valid_1.f c).getD false
def text_p2 (c : Int) : Bool := (text_Valid_2.f c).getD false
def ki (s : ByteArray) : Nat → Nat → Bool
 | 0, _ => true
 | b + 1, pos => if pos < s.size then (if (Utf8.decode s pos).1 < 32 ∨ (Utf8.decode s pos).1 = 127 then false else if (Utf8.decode s pos).1 = 65533 ∧ Lib.hasPrefix (s.extract pos s.size).data.toList [239, 191, 189] = false then false else ki s b (pos + (Utf8.decode s pos).2)) else true
theorem text_width (s : ByteArray) (pos : Nat) (h : pos < s.size) : 1 ≤ (Utf8.decode s pos).2 := by
 by_cases ha : (s[pos]'h).toNat < 128
 ·rw [decode_ascii s pos h ha]
  exact Nat.le_refl _
 ·exact (decode_high s pos h (by omega)).2
theorem Drawn0_iter_below (w : World) (s : ByteArray) (pos : Nat) : Below w.heap.size w (w.iter s pos) := (Below.refl w.heap.size w).alloc (Nat.le_refl _) _
set_option maxRecDepth 1000000 in
set_option maxHeartbeats 2000000 in
theorem text_utf_walk (s : ByteArray) (w : World) (hs : s.size ≤ 4294967280) :
  Calls Tryd.prog 35 #[.string s] w fun e w' => e = .returned (.bool (ki s s.size 0)) ∧ Below w.heap.size w w' := by
 go_enter Tryd.func35, Tryd.ntmps35
 go_wp2
 go_loopw [3, 4] (fun _ _ w' => ∃ (pos b : Nat), w' = w.iter s pos ∧ ki s b pos = ki s s.size 0 ∧ s.size ≤ pos + b) (fun _ _ w' => s.size - w'.iterPos w.heap.size)
 case atStart => exact ⟨0, s.size, rfl, rfl, by omega⟩
 case round =>
  obtain ⟨pos, b, rfl, hc, hb⟩ := hrel
  have HC := qa.mk hc
  clear hc
  by_cases hp : pos < s.size
  ·have hw1 := text_width s pos hp
   obtain ⟨b, rfl⟩ : ∃ b', b = b' + 1 := ⟨b - 1, by omega⟩
   obtain ⟨r, hr⟩ : ∃ r, r = (Utf8.decode s pos).1 := ⟨_, rfl⟩
   have hnx : ∀ ty, (Instr.next (.pointer (some ⟨w.heap.size, 0, none⟩)) true ty).run Tryd.prog (w.iter s pos) = .ok (.tuple #[.bool true, .int .i64 pos, .int .i32 r]) (w.iter s (pos + (Utf8.decode s pos).2)) := fun ty => by rw [hr]; exact run_next_any w s pos ty hp
   have hgo : ki s (b + 1) pos = (if r < 32 ∨ r = 127 then false else if r = 65533 ∧ Lib.hasPrefix (s.extract pos s.size).data.toList [239, 191, 189] = false then false else ki s b (pos + (Utf8.decode s pos).2)) := by
    rw [hr, ki, if_pos hp]
   have HGO := qa.mk hgo
   clear hgo hr
   by_cases h1 : r < 32 ∨ r = 127
   ·have hf : ki s s.size 0 = false := by rw [← HC.out, HGO.out, if_pos h1]
    have HF := qa.mk hf
    clear hf HC HGO
    rcases h1 with h1 | h1
    all_goals
     first | have h1' : (r : Int) < 32 := (by omega) | (have h1' : ((r : Int) == 127) = true := (beq_iff_eq.2 (by omega)); have h2' : 32 ≤ (r : Int) := (by omega))
     clear h1
     go_wp2_with fail
     go_ret
     exact ⟨congrArg (fun b => Ending.returned (Value.bool b)) HF.out.symm, Drawn0_iter_below w s _⟩
   ·have g1 : 32 ≤ (r : Int) := by omega
    have g2 : ((r : Int) == 127) = false := beq_eq_false_iff_ne.2 (by omega)
    by_cases h3 : r = 65533
    ·have g3 : ((r : Int) == 65533) = true := by simp [h3]
     cases h4 : Lib.hasPrefix (s.extract pos s.size).data.toList [239, 191, 189]
     ·have hf : ki s s.size 0 = false := by rw [← HC.out, HGO.out, if_neg h1, if_pos ⟨h3, h4⟩]
      have HF := qa.mk hf
      have H4 := qa.mk h4
      clear hf HC HGO h1 h3 h4
      go_wp2_with (go_at_call 53; refine (Tryd.strings_HasPrefix _ _ _).mono ?_; rintro e w' ⟨rfl, rfl⟩; rw [show Lib.hasPrefix _ _ = _ from H4.out])
      go_ret
      exact ⟨congrArg (fun b => Ending.returned (Value.bool b)) HF.out.symm, Drawn0_iter_below w s _⟩
     ·have hf : ki s b (pos + (Utf8.decode s pos).2) = ki s s.size 0 := by rw [← HC.out, HGO.out, if_neg h1, if_neg (fun h => by rw [h4] at h; exact absurd h.2 (by simp))]
      have HF := qa.mk hf
      have H4 := qa.mk h4
      clear hf HC HGO h1 h3 h4
      go_wp2_with (go_at_call 53; refine (Tryd.strings_HasPrefix _ _ _).mono ?_; rintro e w' ⟨rfl, rfl⟩; rw [show Lib.hasPrefix _ _ = _ from H4.out])
      go_roundw
      case rel => exact ⟨pos + (Utf8.decode s pos).2, b, rfl, HF.out, by omega⟩
      case measure => simp; omega
    ·have g3 : ((r : Int) == 65533) = false := beq_eq_false_iff_ne.2 (by omega)
     have hf : ki s b (pos + (Utf8.decode s pos).2) = ki s s.size 0 := by rw [← HC.out, HGO.out, if_neg h1, if_neg (fun h => h3 h.1)]
     have HF := qa.mk hf
     clear hf HC HGO h1 h3
     go_wp2_with fail
     go_roundw
     case rel => exact ⟨pos + (Utf8.decode s pos).2, b, rfl, HF.out, by omega⟩
     case measure => simp; omega
  ·have hnx : ∀ ty, (Instr.next (.pointer (some ⟨w.heap.size, 0, none⟩)) true ty).run Tryd.prog (w.iter s pos) = _ := fun ty => run_next_end w s pos ty hp
   have hf : ki s s.size 0 = true := by
    rw [← HC.out]
    cases b with
    | zero => rfl
    | succ b => rw [ki, if_neg hp]
   have HF := qa.mk hf
   clear hf HC
   go_wp2
   go_ret
   exact ⟨congrArg (fun b => Ending.returned (Value.bool b)) HF.out.symm, Drawn0_iter_below w s _⟩
def k6.f (a0 : Int) (a1 : ByteArray) : Option Bool := if a1.size ≤ 4294967280 then some (if a0 = 12 then ki a1 a1.size 0 else if a0 = 19 then (bytesOf a1).all text_p1 else if a0 = 22 then (bytesOf a1).all text_p2 else false) else none
theorem k6.calls (a0 : Int) (a1 : ByteArray) (r : Bool) (w : World) (h : k6.f a0 a1 = some r) :
  Calls Tryd.prog 27 #[.int .i64 a0, .string a1] w fun e w' => e = .returned (.bool r) ∧ Below w.heap.size w w' := by
 unfold k6.f at h
 split at h
 ·rename_i hs
  obtain rfl := Option.some.inj h
  clear h
  by_cases h12 : a0 = 12
  ·subst h12
   go_enter Tryd.func27, Tryd.ntmps27
   go_wp2_with (go_at_call 35; refine (text_utf_walk _ _ hs).mono ?_; rintro e w' ⟨rfl, hb⟩)
   go_ret
   exact ⟨rfl, hb⟩
  ·have g12 : (a0 == 12) = false := beq_eq_false_iff_ne.2 h12
   by_cases h19 : a0 = 19
   ·subst h19
    clear h12
    go_enter Tryd.func27, Tryd.ntmps27
    go_wp2_with (go_at_call 36; refine (text_all_1 text_p1 _ _ hs (fun c W => by obtain ⟨b, hb⟩ := text_Valid_1_some c; have hc := text_Valid_1.calls c b W hb; rw [show text_p1 c = b by unfold text_p1; rw [hb]; rfl]; exact hc)).mono ?_; rintro e w' ⟨rfl, hb⟩)
    go_ret
    exact ⟨rfl, hb.below⟩
   ·have g19 : (a0 == 19) = false := beq_eq_false_iff_ne.2 h19
    by_cases h22 : a0 = 22
    ·subst h22
     clear h12 h19
     go_enter Tryd.func27, Tryd.ntmps27
     go_wp2_with (go_at_call 36; refine (text_all_2 text_p2 _ _ hs (fun c W => by obtain ⟨b, hb⟩ := text_Valid_2_some c; have hc := text_Valid_2.calls c b W hb; rw [show text_p2 c = b by unfold text_p2; rw [hb]; rfl]; exact hc)).mono ?_; rintro e w' ⟨rfl, hb⟩)
     go_ret
     exact ⟨rfl, hb.below⟩
    ·have g22 : (a0 == 22) = false := beq_eq_false_iff_ne.2 h22
     rw [if_neg h12, if_neg h19, if_neg h22]
     clear h12 h19 h22
     go_enter Tryd.func27, Tryd.ntmps27
     go_wp2_with fail
     go_ret
     exact ⟨rfl, Below.refl _ _⟩
 ·exact absurd h (by simp)
end Go.Proofs.YtjhlinifnjoefaaDoor.C
end
