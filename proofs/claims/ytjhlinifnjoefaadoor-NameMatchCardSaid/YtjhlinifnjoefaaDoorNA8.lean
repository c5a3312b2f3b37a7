/- Words, walks and plain laws that the claim rests on, gathered. -/
import Derived.Below
import Derived.Deep.Draws
import Derived.Deep.AppendLies
import Derived.Maps.AppendAt
import Derived.OwnWalk
import Derived.Laws.BytesArg
import Derived.Laws.MakeOwn
import Derived.Laws.OwnMore
import Derived.Deep.OwnRows
import Derived.Tactics
import Derived.Lib.ConvBytes
import Derived.Laws.Slices
import Derived.WalkKit
import Derived.KernelRfl
import Derived.RowKit3
import Derived.Deep.LoopGhost
import Derived.Deep.QuietTactic
import Derived.BigQuiet
import Derived.WideLaws
import Derived.Deep.DeepCutAuto
import Derived.Deep.CutBlock
import Derived.Deep.RegionHeld3
import Derived.Laws.Rows
import Derived.Lib.AppendStr
import Derived.ArgAppend
import Derived.Laws.IdiomCopy
import Derived.RowKit
import Derived.OrdersHeld
import Derived.Laws.BitsLemmas
import Derived.Laws.StructEq
import Derived.Test.YtjhlinifnjoefaaDoorProg
import Derived.WalkSpells
import Derived.Shelf.Small.Strs
import Derived.Shelf.Strings.Search1
import Derived.Shelf.Strings.Search2
import Derived.Shelf.Strings.Search3
import Derived.Shelf.Strings.Cut
import Derived.Shelf.Strings.Count
import Derived.Shelf.LaysM
import Derived.Shelf.Strings.Shaped
import Derived.Shelf.Strings.Prefix
import Derived.Shelf.Strings.Split
import Derived.Shelf.Strings.SplitShaped
import Derived.Shelf.Unicode.DecodeSlow
import Derived.Test.YtjhlinifnjoefaaDoorNA0
import Derived.Test.YtjhlinifnjoefaaDoorNA1
import Derived.Test.YtjhlinifnjoefaaDoorNA2
import Derived.Test.YtjhlinifnjoefaaDoorNA3
import Derived.Test.YtjhlinifnjoefaaDoorNA4
import Derived.Test.YtjhlinifnjoefaaDoorNA5
import Derived.Test.YtjhlinifnjoefaaDoorNA6
import Derived.Test.YtjhlinifnjoefaaDoorNA7
namespace Go.Proofs.YtjhlinifnjoefaaDoorW.PrintLast
end Go.Proofs.YtjhlinifnjoefaaDoorW.PrintLast
namespace Go.Proofs.YtjhlinifnjoefaaDoorW.PrintMore
end Go.Proofs.YtjhlinifnjoefaaDoorW.PrintMore
namespace Go.Proofs.YtjhlinifnjoefaaDoorW.PrintWords
end Go.Proofs.YtjhlinifnjoefaaDoorW.PrintWords
section
namespace Go.Proofs.YtjhlinifnjoefaaDoor.C
open Go.RowKit Go.Proofs.YtjhlinifnjoefaaDoorW.PrintWords Go.Proofs.YtjhlinifnjoefaaDoorW.PrintLast Go.Proofs.YtjhlinifnjoefaaDoorW.PrintMore
attribute [local go_sem] xr xp xw xx xf xe xq xo
set_option linter.unusedVariables false
set_option linter.unusedSimpArgs false
def z6.f (k : Nat)  : Option (Bool) := (q8.f k (⟨#[67, 78, 61, 87, 101, 98, 32, 83, 101, 114, 118, 101, 114, 44, 79, 61, 69, 120, 97, 109, 112, 108, 101]⟩ : ByteArray)).bind fun bt219 => ((q8.f k (⟨#[67, 78, 61, 119, 101, 98, 32, 32, 115, 101, 114, 118, 101, 114, 44, 79, 61, 69, 88, 65, 77, 80, 76, 69]⟩ : ByteArray)).bind fun bt224 => (if bt219.2 = 0 then (if bt224.2 = 0 then (if (bt219.1.length : Int) = 2 then ((xj.f k bt219.1 bt224.1).bind fun t229 => (if t229 = true then ((xj.f k bt219.1 ([] : List (List (S26)))).bind fun t230 => (some (!t230))) else (some false))) else (some false)) else (some false)) else (some false)))
theorem z6.mono : ∀ k, LeO (z6.f k ) (z6.f (k + 1) ) := by
 intro  k
 unfold z6.f
 repeat' first
   | (with_reducible exact xj.mono _ _ _)
   | (with_reducible exact q8.mono _ _)
   | (with_reducible exact LeO.refl _)
   | (with_reducible exact LeO.none _)
   | (with_reducible refine LeO.ite ?_ ?_)
   | (with_reducible refine LeO.bind ?_ (fun _ => ?_))
set_option maxHeartbeats 8000000 in
set_option maxRecDepth 100000 in
theorem z6.calls (k : Nat)  (r : Bool) (w : World) (hG : LibHeld w) (h : z6.f k  = some r) :
  Calls Tryd.prog 9 #[] w fun e w' => e = .returned (.bool r) ∧ Below w.heap.size w w' := by
 have hu24 := Tryd.underlying24
 have HG := qa.mk hG
 clear hG
 have HB := qa.mk (Below.refl w.heap.size w)
 have H : ((q8.f k (⟨#[67, 78, 61, 87, 101, 98, 32, 83, 101, 114, 118, 101, 114, 44, 79, 61, 69, 120, 97, 109, 112, 108, 101]⟩ : ByteArray)).bind fun bt219 => ((q8.f k (⟨#[67, 78, 61, 119, 101, 98, 32, 32, 115, 101, 114, 118, 101, 114, 44, 79, 61, 69, 88, 65, 77, 80, 76, 69]⟩ : ByteArray)).bind fun bt224 => (if bt219.2 = 0 then (if bt224.2 = 0 then (if (bt219.1.length : Int) = 2 then ((xj.f k bt219.1 bt224.1).bind fun t229 => (if t229 = true then ((xj.f k bt219.1 ([] : List (List (S26)))).bind fun t230 => (some (!t230))) else (some false))) else (some false)) else (some false)) else (some false)))) = some r := h
 clear h
 replace H := Option.bind_eq_some_iff.mp H
 obtain ⟨⟨t219, t222⟩, A10, H⟩ := H
 replace H : ((q8.f k (⟨#[67, 78, 61, 119, 101, 98, 32, 32, 115, 101, 114, 118, 101, 114, 44, 79, 61, 69, 88, 65, 77, 80, 76, 69]⟩ : ByteArray)).bind fun bt224 => (if t222 = 0 then (if bt224.2 = 0 then (if (t219.length : Int) = 2 then ((xj.f k t219 bt224.1).bind fun t229 => (if t229 = true then ((xj.f k t219 ([] : List (List (S26)))).bind fun t230 => (some (!t230))) else (some false))) else (some false)) else (some false)) else (some false))) = some r := H
 have A1 := qa.mk A10
 clear A10
 replace H := Option.bind_eq_some_iff.mp H
 obtain ⟨⟨t224, t227⟩, A20, H⟩ := H
 replace H : (if t222 = 0 then (if t227 = 0 then (if (t219.length : Int) = 2 then ((xj.f k t219 t224).bind fun t229 => (if t229 = true then ((xj.f k t219 ([] : List (List (S26)))).bind fun t230 => (some (!t230))) else (some false))) else (some false)) else (some false)) else (some false)) = some r := H
 have A2 := qa.mk A20
 clear A20
 by_cases c3 : t222 = 0
 ·rw [if_pos c3] at H
  have c3b0 : (t222 == 0) = true := beq_iff_eq.mpr c3
  have c3b1 : (t222 != 0) = false := bne_eq_false_iff_eq.mpr c3
  clear c3
  by_cases c4 : t227 = 0
  ·rw [if_pos c4] at H
   have c4b0 : (t227 == 0) = true := beq_iff_eq.mpr c4
   have c4b1 : (t227 != 0) = false := bne_eq_false_iff_eq.mpr c4
   clear c4
   by_cases c5 : (t219.length : Int) = 2
   ·rw [if_pos c5] at H
    have c5b0 : ((t219.length : Int) == 2) = true := beq_iff_eq.mpr c5
    have c5b1 : ((t219.length : Int) != 2) = false := bne_eq_false_iff_eq.mpr c5
    clear c5
    replace H := Option.bind_eq_some_iff.mp H
    obtain ⟨t229, A60, H⟩ := H
    replace H : (if t229 = true then ((xj.f k t219 ([] : List (List (S26)))).bind fun t230 => (some (!t230))) else (some false)) = some r := H
    have A6 := qa.mk A60
    clear A60
    by_cases c7 : t229 = true
    ·subst c7
     have H1 : ((xj.f k t219 ([] : List (List (S26)))).bind fun t230 => (some (!t230))) = some r := by rw [if_pos rfl] at H; exact H
     clear H
     have H := H1
     clear H1
     replace H := Option.bind_eq_some_iff.mp H
     obtain ⟨t230, A80, H⟩ := H
     replace H : (some (!t230)) = some r := H
     have A8 := qa.mk A80
     clear A80
     obtain rfl := Option.some.inj H
     go_enter Tryd.func9, Tryd.ntmps9
     go_wp2_with (first | ((with_reducible refine zk (f := 21) rfl ?_); refine xv (some 6) rfl rfl Tryd.func21 (by kernel_rfl) rfl #[.string (⟨#[67, 78, 61, 87, 101, 98, 32, 83, 101, 114, 118, 101, 114, 44, 79, 61, 69, 120, 97, 109, 112, 108, 101]⟩ : ByteArray)] rfl (by (try simp only [List.map_toArray, List.map_cons, List.map_nil]); first | done | rfl | (simp only [List.length_drop, List.length_take]; rfl)) ?_; (with_reducible refine (q8.calls k (⟨#[67, 78, 61, 87, 101, 98, 32, 83, 101, 114, 118, 101, 114, 44, 79, 61, 69, 120, 97, 109, 112, 108, 101]⟩ : ByteArray) t219 t222 _ ?side1 A1.out).mono ?_); (case side1 => exact LibHeld.below HG.out (by repeat (first | (with_reducible first | exact HB.out | apply qc | apply qb | apply qd) | exact HB.out))); rintro e w9 ⟨v220, rfl, ho0, hb⟩; refine ⟨_, rfl, ?_⟩; have n0_ := qa.mk (Kd.S_lower ho0 (qm (by repeat (first | (with_reducible first | exact HB.out | apply qc | apply qb | apply qd) | exact HB.out)))); have n1_ := qa.mk (qj (by repeat (first | (with_reducible first | exact HB.out | apply qc | apply qb | apply qd) | exact HB.out)) hb); clear HB; have HO221 := n0_; have HB := n1_; clear n0_ n1_; (try clear hb); (try clear hb2); (try clear hk); (try clear hi); (try clear ho0)) | ((with_reducible refine zd (N := 1) rfl ?_); (try (refine xl (by rfl) ?_; dsimp only)); refine zg ?hg (N := 1) ?hd (cs := #[.slice none 0 0]) (t := 24) ?hr ?_; (case hd => rfl); (case hg => rfl); (case hr => first | (go_simp; done) | (go_simp; rfl)); intro gb223 hg w10 hbox hb; have n0_ := qa.mk (Kd.xz (by (with_reducible repeat (first | apply Kd.z8 | apply Kd.z7 | apply Kd.xn)); exact HO221.out) hb); have n1_ := qa.mk (qj (by repeat (first | (with_reducible first | exact HB.out | apply qc | apply qb | apply qd) | exact HB.out)) hb); have n2_ := qa.mk (hbox); have n3_ := qa.mk ((by rw [hg]; exact (qm (by repeat (first | (with_reducible first | exact HB.out | apply qc | apply qb | apply qd) | exact HB.out))) : w.heap.size ≤ gb223)); have n4_ := qa.mk ((by rw [hg]; exact (qm (by repeat (first | (with_reducible first | exact HB.out | apply qc | apply qb | apply qd) | exact HB.out))) : w.heap.size ≤ gb223)); clear HO221; clear HB; have HO221 := n0_; have HB := n1_; have BK223 := n2_; have GW223 := n3_; have GE223 := n4_; clear n0_ n1_ n2_ n3_ n4_; clear hb hbox hg; obtain ⟨Ao11, co11, eo11⟩ := Kd.ku HO221.out; subst eo11; have hcz12_0 : w10.cell? ⟨gb223, 0, none⟩ = some (.slice none 0 0) := (qi BK223.out 0).trans rfl; have hfz12_0 := qk BK223.out 0) | ((with_reducible refine zk (f := 21) rfl ?_); refine xv (some 10) rfl rfl Tryd.func21 (by kernel_rfl) rfl #[.string (⟨#[67, 78, 61, 119, 101, 98, 32, 32, 115, 101, 114, 118, 101, 114, 44, 79, 61, 69, 88, 65, 77, 80, 76, 69]⟩ : ByteArray)] rfl (by (try simp only [List.map_toArray, List.map_cons, List.map_nil]); first | done | rfl | (simp only [List.length_drop, List.length_take]; rfl)) ?_; (with_reducible refine (q8.calls k (⟨#[67, 78, 61, 119, 101, 98, 32, 32, 115, 101, 114, 118, 101, 114, 44, 79, 61, 69, 88, 65, 77, 80, 76, 69]⟩ : ByteArray) t224 t227 _ ?side1 A2.out).mono ?_); (case side1 => exact LibHeld.below HG.out (by repeat (first | (with_reducible first | exact HB.out | apply qc | apply qb | apply qd | refine qe ?_ GE223.out) | exact HB.out))); rintro e w13 ⟨v225, rfl, ho0, hb⟩; refine ⟨_, rfl, ?_⟩; have n0_ := qa.mk (Kd.S_elder' (by (with_reducible repeat (first | apply Kd.z8 | apply Kd.z7 | apply Kd.xn)); exact (Kd.kd (Kd.S_far (p := ⟨gb223, 0, none⟩) (Kd.kp HO221.out BK223.out (by decide)) (fun _ hk => hk.2) (.slice Ao11 t219.length co11)) (fun _ h_ => h_.1))) (Kd.S_base ho0) hb); have n1_ := qa.mk (Kd.S_lower (Kd.S_new' ho0 (Kd.S_lt (by (with_reducible repeat (first | apply Kd.z8 | apply Kd.z7 | apply Kd.xn)); exact (Kd.kd (Kd.S_far (p := ⟨gb223, 0, none⟩) (Kd.kp HO221.out BK223.out (by decide)) (fun _ hk => hk.2) (.slice Ao11 t219.length co11)) (fun _ h_ => h_.1))))) (qm (by repeat (first | (with_reducible first | exact HB.out | apply qc | apply qb | apply qd | refine qe ?_ GE223.out) | exact HB.out)))); have n2_ := qa.mk (qt (g := gb223) (o := .cells #[.slice Ao11 t219.length co11] 24 (0, 0)) (by (with_reducible repeat (first | refine qg ?_ _ | refine qh ?_ | refine qf ?_ _)); refine zw (cs := #[.slice none 0 0]) ?_ 0 _ rfl; (with_reducible repeat (first | refine qg ?_ _ | refine qh ?_ | refine qf ?_ _)); exact BK223.out) hb); have n3_ := qa.mk (qj (by repeat (first | (with_reducible first | exact HB.out | apply qc | apply qb | apply qd | refine qe ?_ GE223.out) | exact HB.out)) hb); clear HO221; clear BK223; clear HB; have HO221 := n0_; have HO226 := n1_; have BK223 := n2_; have HB := n3_; clear n0_ n1_ n2_ n3_; (try clear hb); (try clear hb2); (try clear hk); (try clear hi); (try clear ho0)) | ((with_reducible refine zd (N := 3) rfl ?_); (try (refine xl (by rfl) ?_; dsimp only)); refine zg ?hg (N := 3) ?hd (cs := #[.slice none 0 0]) (t := 24) ?hr ?_; (case hd => rfl); (case hg => rfl); (case hr => first | (go_simp; done) | (go_simp; rfl)); intro gb228 hg w14 hbox hb; have n0_ := qa.mk (Kd.xz (by (with_reducible repeat (first | apply Kd.z8 | apply Kd.z7 | apply Kd.xn)); exact HO221.out) hb); have n1_ := qa.mk (Kd.xz (by (with_reducible repeat (first | apply Kd.z8 | apply Kd.z7 | apply Kd.xn)); exact HO226.out) hb); have n2_ := qa.mk (qt (g := gb223) (o := .cells #[.slice Ao11 t219.length co11] 24 (0, 0)) (by (with_reducible repeat (first | refine qg ?_ _ | refine qh ?_ | refine qf ?_ _)); exact BK223.out) hb); have n3_ := qa.mk (qj (by repeat (first | (with_reducible first | exact HB.out | apply qc | apply qb | apply qd | refine qe ?_ GE223.out) | exact HB.out)) hb); have n4_ := qa.mk (hbox); have n5_ := qa.mk ((by rw [hg]; exact (qm (by repeat (first | (with_reducible first | exact HB.out | apply qc | apply qb | apply qd | refine qe ?_ GE223.out) | exact HB.out))) : w.heap.size ≤ gb228)); have n6_ := qa.mk ((by rw [hg]; exact (qm (by repeat (first | (with_reducible first | exact HB.out | apply qc | apply qb | apply qd | refine qe ?_ GE223.out) | exact HB.out))) : w.heap.size ≤ gb228)); have n7_ := qa.mk ((by rw [hg]; exact Nat.ne_of_lt (zl (g := gb223) (o := .cells #[.slice Ao11 t219.length co11] 24 (0, 0)) (by (with_reducible repeat (first | refine qg ?_ _ | refine qh ?_ | refine qf ?_ _)); exact BK223.out)) : gb223 ≠ gb228)); have n8_ := qa.mk ((by rw [hg]; exact Nat.ne_of_gt (zl (g := gb223) (o := .cells #[.slice Ao11 t219.length co11] 24 (0, 0)) (by (with_reducible repeat (first | refine qg ?_ _ | refine qh ?_ | refine qf ?_ _)); exact BK223.out)) : gb228 ≠ gb223)); clear HO221; clear HO226; clear BK223; clear HB; have HO221 := n0_; have HO226 := n1_; have BK223 := n2_; have HB := n3_; have BK228 := n4_; have GW228 := n5_; have GE228 := n6_; have NB223_228 := n7_; have NB228_223 := n8_; clear n0_ n1_ n2_ n3_ n4_ n5_ n6_ n7_ n8_; clear hb hbox hg; obtain ⟨Ao15, co15, eo15⟩ := Kd.ku HO226.out; subst eo15; have hnb16 := NB228_223.out; have hnc16 := NB223_228.out; have hcz17_0 : w14.cell? ⟨gb228, 0, none⟩ = some (.slice none 0 0) := (qi BK228.out 0).trans rfl; have hfz17_0 := qk BK228.out 0; have hcz18_0 : w14.cell? ⟨gb223, 0, none⟩ = some (.slice Ao11 t219.length co11) := (qi BK223.out 0).trans rfl; have hfz18_0 := qk BK223.out 0) | (go_at_call 15; (with_reducible refine (xj.calls k _ _ t219 _ _ t224 true _ ?side1 ?side2 ?side3 ?side4 A6.out).mono ?_); (case side1 => refine (Kd.k5 (e := 27) (base := w.heap.size) (ok := fun k_ => (True ∧ some k_ ≠ (.slice Ao15 t224.length co15 : Value).ownBlock)) (n := t219.length) (c := co11) ?_).2.2; exact (by (with_reducible repeat (first | apply Kd.z8 | apply Kd.z7 | apply Kd.xn)); exact (Kd.kd (Kd.S_far (p := ⟨gb228, 0, none⟩) (Kd.kp HO221.out BK228.out (by decide)) (fun _ hk => hk.2) (.slice Ao15 t224.length co15)) (fun _ h_ => h_.1)))); (case side2 => exact (Kd.k5 HO221.out).2.1); (case side3 => refine (Kd.k5 (e := 27) (base := w.heap.size) (ok := fun k_ => (True ∧ some k_ ≠ (.slice Ao11 t219.length co11 : Value).ownBlock)) (n := t224.length) (c := co15) ?_).2.2; exact (by (with_reducible repeat (first | apply Kd.z8 | apply Kd.z7 | apply Kd.xn)); exact (Kd.kd (Kd.S_far (p := ⟨gb228, 0, none⟩) (Kd.kp HO226.out BK228.out (by decide)) (fun _ hk => hk.2) (.slice Ao15 t224.length co15)) (fun _ h_ => h_.1)))); (case side4 => exact (Kd.k5 HO226.out).2.1); rintro e w19 ⟨rfl, hb⟩; have n0_ := qa.mk (Kd.xz (by (with_reducible repeat (first | apply Kd.z8 | apply Kd.z7 | apply Kd.xn)); exact (Kd.kd (Kd.S_far (p := ⟨gb228, 0, none⟩) (Kd.kp HO221.out BK228.out (by decide)) (fun _ hk => hk.2) (.slice Ao15 t224.length co15)) (fun _ h_ => h_.1))) hb); have n1_ := qa.mk (Kd.xz (by (with_reducible repeat (first | apply Kd.z8 | apply Kd.z7 | apply Kd.xn)); exact (Kd.kd (Kd.S_far (p := ⟨gb228, 0, none⟩) (Kd.kp HO226.out BK228.out (by decide)) (fun _ hk => hk.2) (.slice Ao15 t224.length co15)) (fun _ h_ => h_.1))) hb); have n2_ := qa.mk (qt (g := gb223) (o := .cells #[.slice Ao11 t219.length co11] 24 (0, 0)) (by (with_reducible repeat (first | refine qg ?_ _ | refine qh ?_ | refine qf ?_ _)); refine xd ?_ NB223_228.out _; (with_reducible repeat (first | refine qg ?_ _ | refine qh ?_ | refine qf ?_ _)); exact BK223.out) hb); have n3_ := qa.mk (qt (g := gb228) (o := .cells #[.slice Ao15 t224.length co15] 24 (0, 0)) (by (with_reducible repeat (first | refine qg ?_ _ | refine qh ?_ | refine qf ?_ _)); refine zw (cs := #[.slice none 0 0]) ?_ 0 _ rfl; (with_reducible repeat (first | refine qg ?_ _ | refine qh ?_ | refine qf ?_ _)); exact BK228.out) hb); have n4_ := qa.mk (qj (by repeat (first | (with_reducible first | exact HB.out | apply qc | apply qb | apply qd | refine qe ?_ GE223.out | refine qe ?_ GE228.out) | exact HB.out)) hb); clear HO221; clear HO226; clear BK223; clear BK228; clear HB; have HO221 := n0_; have HO226 := n1_; have BK223 := n2_; have BK228 := n3_; have HB := n4_; clear n0_ n1_ n2_ n3_ n4_; (try clear hb); (try clear hb2); (try clear hk); (try clear hi); have hcz20_0 : w19.cell? ⟨gb223, 0, none⟩ = some (.slice Ao11 t219.length co11) := (qi BK223.out 0).trans rfl; have hfz20_0 := qk BK223.out 0) | (go_at_call 15; (refine (xj.calls k _ _ t219 _ _ ([] : List (List (S26))) t230 _ ?side1 ?side2 ?side3 ?side4 A8.out).mono ?_); (case side1 => repeat (first | exact (Kd.k5 HO221.out).2.2 | (with_reducible refine Kd.ke ?_ _) | (with_reducible refine Kd.kf ?_ _) | (with_reducible refine Kd.ks ?_))); (case side2 => exact (Kd.k5 HO221.out).2.1); (case side3 => exact Kd.C_nil _ _); (case side4 => exact Nat.le_refl _); rintro e w21 ⟨rfl, hb⟩; have n0_ := qa.mk (Kd.xz (by (with_reducible repeat (first | apply Kd.z8 | apply Kd.z7 | apply Kd.xn)); exact HO221.out) hb); have n1_ := qa.mk (Kd.xz (by (with_reducible repeat (first | apply Kd.z8 | apply Kd.z7 | apply Kd.xn)); exact HO226.out) hb); have n2_ := qa.mk (qt (g := gb223) (o := .cells #[.slice Ao11 t219.length co11] 24 (0, 0)) (by (with_reducible repeat (first | refine qg ?_ _ | refine qh ?_ | refine qf ?_ _)); exact BK223.out) hb); have n3_ := qa.mk (qt (g := gb228) (o := .cells #[.slice Ao15 t224.length co15] 24 (0, 0)) (by (with_reducible repeat (first | refine qg ?_ _ | refine qh ?_ | refine qf ?_ _)); exact BK228.out) hb); have n4_ := qa.mk (qj (by repeat (first | (with_reducible first | exact HB.out | apply qc | apply qb | apply qd | refine qe ?_ GE223.out | refine qe ?_ GE228.out) | exact HB.out)) hb); clear HO221; clear HO226; clear BK223; clear BK228; clear HB; have HO221 := n0_; have HO226 := n1_; have BK223 := n2_; have BK228 := n3_; have HB := n4_; clear n0_ n1_ n2_ n3_ n4_; (try clear hb); (try clear hb2); (try clear hk); (try clear hi)))
     go_ret
     exact ⟨by first | rfl | (simp [qq, qp] <;> rfl) | (simp [*, qq, qp] <;> rfl), by repeat (first | (with_reducible first | exact HB.out | apply qc | apply qb | apply qd | refine qe ?_ GE223.out | refine qe ?_ GE228.out) | exact HB.out)⟩
    ·replace c7 := Bool.eq_false_iff.mpr c7
     subst c7
     have H1 : (some false) = some r := by rw [if_neg (show ¬ (false = true) by decide)] at H; exact H
     clear H
     have H := H1
     clear H1
     obtain rfl := Option.some.inj H
     go_enter Tryd.func9, Tryd.ntmps9
     go_wp2_with (first | ((with_reducible refine zk (f := 21) rfl ?_); refine xv (some 6) rfl rfl Tryd.func21 (by kernel_rfl) rfl #[.string (⟨#[67, 78, 61, 87, 101, 98, 32, 83, 101, 114, 118, 101, 114, 44, 79, 61, 69, 120, 97, 109, 112, 108, 101]⟩ : ByteArray)] rfl (by (try simp only [List.map_toArray, List.map_cons, List.map_nil]); first | done | rfl | (simp only [List.length_drop, List.length_take]; rfl)) ?_; (with_reducible refine (q8.calls k (⟨#[67, 78, 61, 87, 101, 98, 32, 83, 101, 114, 118, 101, 114, 44, 79, 61, 69, 120, 97, 109, 112, 108, 101]⟩ : ByteArray) t219 t222 _ ?side1 A1.out).mono ?_); (case side1 => exact LibHeld.below HG.out (by repeat (first | (with_reducible first | exact HB.out | apply qc | apply qb | apply qd) | exact HB.out))); rintro e w22 ⟨v220, rfl, ho0, hb⟩; refine ⟨_, rfl, ?_⟩; have n0_ := qa.mk (Kd.S_lower ho0 (qm (by repeat (first | (with_reducible first | exact HB.out | apply qc | apply qb | apply qd) | exact HB.out)))); have n1_ := qa.mk (qj (by repeat (first | (with_reducible first | exact HB.out | apply qc | apply qb | apply qd) | exact HB.out)) hb); clear HB; have HO221 := n0_; have HB := n1_; clear n0_ n1_; (try clear hb); (try clear hb2); (try clear hk); (try clear hi); (try clear ho0)) | ((with_reducible refine zd (N := 1) rfl ?_); (try (refine xl (by rfl) ?_; dsimp only)); refine zg ?hg (N := 1) ?hd (cs := #[.slice none 0 0]) (t := 24) ?hr ?_; (case hd => rfl); (case hg => rfl); (case hr => first | (go_simp; done) | (go_simp; rfl)); intro gb223 hg w23 hbox hb; have n0_ := qa.mk (Kd.xz (by (with_reducible repeat (first | apply Kd.z8 | apply Kd.z7 | apply Kd.xn)); exact HO221.out) hb); have n1_ := qa.mk (qj (by repeat (first | (with_reducible first | exact HB.out | apply qc | apply qb | apply qd) | exact HB.out)) hb); have n2_ := qa.mk (hbox); have n3_ := qa.mk ((by rw [hg]; exact (qm (by repeat (first | (with_reducible first | exact HB.out | apply qc | apply qb | apply qd) | exact HB.out))) : w.heap.size ≤ gb223)); have n4_ := qa.mk ((by rw [hg]; exact (qm (by repeat (first | (with_reducible first | exact HB.out | apply qc | apply qb | apply qd) | exact HB.out))) : w.heap.size ≤ gb223)); clear HO221; clear HB; have HO221 := n0_; have HB := n1_; have BK223 := n2_; have GW223 := n3_; have GE223 := n4_; clear n0_ n1_ n2_ n3_ n4_; clear hb hbox hg; obtain ⟨Ao24, co24, eo24⟩ := Kd.ku HO221.out; subst eo24; have hcz25_0 : w23.cell? ⟨gb223, 0, none⟩ = some (.slice none 0 0) := (qi BK223.out 0).trans rfl; have hfz25_0 := qk BK223.out 0) | ((with_reducible refine zk (f := 21) rfl ?_); refine xv (some 10) rfl rfl Tryd.func21 (by kernel_rfl) rfl #[.string (⟨#[67, 78, 61, 119, 101, 98, 32, 32, 115, 101, 114, 118, 101, 114, 44, 79, 61, 69, 88, 65, 77, 80, 76, 69]⟩ : ByteArray)] rfl (by (try simp only [List.map_toArray, List.map_cons, List.map_nil]); first | done | rfl | (simp only [List.length_drop, List.length_take]; rfl)) ?_; (with_reducible refine (q8.calls k (⟨#[67, 78, 61, 119, 101, 98, 32, 32, 115, 101, 114, 118, 101, 114, 44, 79, 61, 69, 88, 65, 77, 80, 76, 69]⟩ : ByteArray) t224 t227 _ ?side1 A2.out).mono ?_); (case side1 => exact LibHeld.below HG.out (by repeat (first | (with_reducible first | exact HB.out | apply qc | apply qb | apply qd | refine qe ?_ GE223.out) | exact HB.out))); rintro e w26 ⟨v225, rfl, ho0, hb⟩; refine ⟨_, rfl, ?_⟩; have n0_ := qa.mk (Kd.S_elder' (by (with_reducible repeat (first | apply Kd.z8 | apply Kd.z7 | apply Kd.xn)); exact (Kd.kd (Kd.S_far (p := ⟨gb223, 0, none⟩) (Kd.kp HO221.out BK223.out (by decide)) (fun _ hk => hk.2) (.slice Ao24 t219.length co24)) (fun _ h_ => h_.1))) (Kd.S_base ho0) hb); have n1_ := qa.mk (Kd.S_lower (Kd.S_new' ho0 (Kd.S_lt (by (with_reducible repeat (first | apply Kd.z8 | apply Kd.z7 | apply Kd.xn)); exact (Kd.kd (Kd.S_far (p := ⟨gb223, 0, none⟩) (Kd.kp HO221.out BK223.out (by decide)) (fun _ hk => hk.2) (.slice Ao24 t219.length co24)) (fun _ h_ => h_.1))))) (qm (by repeat (first | (with_reducible first | exact HB.out | apply qc | apply qb | apply qd | refine qe ?_ GE223.out) | exact HB.out)))); have n2_ := qa.mk (qt (g := gb223) (o := .cells #[.slice Ao24 t219.length co24] 24 (0, 0)) (by (with_reducible repeat (first | refine qg ?_ _ | refine qh ?_ | refine qf ?_ _)); refine zw (cs := #[.slice none 0 0]) ?_ 0 _ rfl; (with_reducible repeat (first | refine qg ?_ _ | refine qh ?_ | refine qf ?_ _)); exact BK223.out) hb); have n3_ := qa.mk (qj (by repeat (first | (with_reducible first | exact HB.out | apply qc | apply qb | apply qd | refine qe ?_ GE223.out) | exact HB.out)) hb); clear HO221; clear BK223; clear HB; have HO221 := n0_; have HO226 := n1_; have BK223 := n2_; have HB := n3_; clear n0_ n1_ n2_ n3_; (try clear hb); (try clear hb2); (try clear hk); (try clear hi); (try clear ho0)) | ((with_reducible refine zd (N := 3) rfl ?_); (try (refine xl (by rfl) ?_; dsimp only)); refine zg ?hg (N := 3) ?hd (cs := #[.slice none 0 0]) (t := 24) ?hr ?_; (case hd => rfl); (case hg => rfl); (case hr => first | (go_simp; done) | (go_simp; rfl)); intro gb228 hg w27 hbox hb; have n0_ := qa.mk (Kd.xz (by (with_reducible repeat (first | apply Kd.z8 | apply Kd.z7 | apply Kd.xn)); exact HO221.out) hb); have n1_ := qa.mk (Kd.xz (by (with_reducible repeat (first | apply Kd.z8 | apply Kd.z7 | apply Kd.xn)); exact HO226.out) hb); have n2_ := qa.mk (qt (g := gb223) (o := .cells #[.slice Ao24 t219.length co24] 24 (0, 0)) (by (with_reducible repeat (first | refine qg ?_ _ | refine qh ?_ | refine qf ?_ _)); exact BK223.out) hb); have n3_ := qa.mk (qj (by repeat (first | (with_reducible first | exact HB.out | apply qc | apply qb | apply qd | refine qe ?_ GE223.out) | exact HB.out)) hb); have n4_ := qa.mk (hbox); have n5_ := qa.mk ((by rw [hg]; exact (qm (by repeat (first | (with_reducible first | exact HB.out | apply qc | apply qb | apply qd | refine qe ?_ GE223.out) | exact HB.out))) : w.heap.size ≤ gb228)); have n6_ := qa.mk ((by rw [hg]; exact (qm (by repeat (first | (with_reducible first | exact HB.out | apply qc | apply qb | apply qd | refine qe ?_ GE223.out) | exact HB.out))) : w.heap.size ≤ gb228)); have n7_ := qa.mk ((by rw [hg]; exact Nat.ne_of_lt (zl (g := gb223) (o := .cells #[.slice Ao24 t219.length co24] 24 (0, 0)) (by (with_reducible repeat (first | refine qg ?_ _ | refine qh ?_ | refine qf ?_ _)); exact BK223.out)) : gb223 ≠ gb228)); have n8_ := qa.mk ((by rw [hg]; exact Nat.ne_of_gt (zl (g := gb223) (o := .cells #[.slice Ao24 t219.length co24] 24 (0, 0)) (by (with_reducible repeat (first | refine qg ?_ _ | refine qh ?_ | refine qf ?_ _)); exact BK223.out)) : gb228 ≠ gb223)); clear HO221; clear HO226; clear BK223; clear HB; have HO221 := n0_; have HO226 := n1_; have BK223 := n2_; have HB := n3_; have BK228 := n4_; have GW228 := n5_; have GE228 := n6_; have NB223_228 := n7_; have NB228_223 := n8_; clear n0_ n1_ n2_ n3_ n4_ n5_ n6_ n7_ n8_; clear hb hbox hg; obtain ⟨Ao28, co28, eo28⟩ := Kd.ku HO226.out; subst eo28; have hnb29 := NB228_223.out; have hnc29 := NB223_228.out; have hcz30_0 : w27.cell? ⟨gb228, 0, none⟩ = some (.slice none 0 0) := (qi BK228.out 0).trans rfl; have hfz30_0 := qk BK228.out 0; have hcz31_0 : w27.cell? ⟨gb223, 0, none⟩ = some (.slice Ao24 t219.length co24) := (qi BK223.out 0).trans rfl; have hfz31_0 := qk BK223.out 0) | (go_at_call 15; (with_reducible refine (xj.calls k _ _ t219 _ _ t224 false _ ?side1 ?side2 ?side3 ?side4 A6.out).mono ?_); (case side1 => refine (Kd.k5 (e := 27) (base := w.heap.size) (ok := fun k_ => (True ∧ some k_ ≠ (.slice Ao28 t224.length co28 : Value).ownBlock)) (n := t219.length) (c := co24) ?_).2.2; exact (by (with_reducible repeat (first | apply Kd.z8 | apply Kd.z7 | apply Kd.xn)); exact (Kd.kd (Kd.S_far (p := ⟨gb228, 0, none⟩) (Kd.kp HO221.out BK228.out (by decide)) (fun _ hk => hk.2) (.slice Ao28 t224.length co28)) (fun _ h_ => h_.1)))); (case side2 => exact (Kd.k5 HO221.out).2.1); (case side3 => refine (Kd.k5 (e := 27) (base := w.heap.size) (ok := fun k_ => (True ∧ some k_ ≠ (.slice Ao24 t219.length co24 : Value).ownBlock)) (n := t224.length) (c := co28) ?_).2.2; exact (by (with_reducible repeat (first | apply Kd.z8 | apply Kd.z7 | apply Kd.xn)); exact (Kd.kd (Kd.S_far (p := ⟨gb228, 0, none⟩) (Kd.kp HO226.out BK228.out (by decide)) (fun _ hk => hk.2) (.slice Ao28 t224.length co28)) (fun _ h_ => h_.1)))); (case side4 => exact (Kd.k5 HO226.out).2.1); rintro e w32 ⟨rfl, hb⟩; have n0_ := qa.mk (Kd.xz (by (with_reducible repeat (first | apply Kd.z8 | apply Kd.z7 | apply Kd.xn)); exact (Kd.kd (Kd.S_far (p := ⟨gb228, 0, none⟩) (Kd.kp HO221.out BK228.out (by decide)) (fun _ hk => hk.2) (.slice Ao28 t224.length co28)) (fun _ h_ => h_.1))) hb); have n1_ := qa.mk (Kd.xz (by (with_reducible repeat (first | apply Kd.z8 | apply Kd.z7 | apply Kd.xn)); exact (Kd.kd (Kd.S_far (p := ⟨gb228, 0, none⟩) (Kd.kp HO226.out BK228.out (by decide)) (fun _ hk => hk.2) (.slice Ao28 t224.length co28)) (fun _ h_ => h_.1))) hb); have n2_ := qa.mk (qt (g := gb223) (o := .cells #[.slice Ao24 t219.length co24] 24 (0, 0)) (by (with_reducible repeat (first | refine qg ?_ _ | refine qh ?_ | refine qf ?_ _)); refine xd ?_ NB223_228.out _; (with_reducible repeat (first | refine qg ?_ _ | refine qh ?_ | refine qf ?_ _)); exact BK223.out) hb); have n3_ := qa.mk (qt (g := gb228) (o := .cells #[.slice Ao28 t224.length co28] 24 (0, 0)) (by (with_reducible repeat (first | refine qg ?_ _ | refine qh ?_ | refine qf ?_ _)); refine zw (cs := #[.slice none 0 0]) ?_ 0 _ rfl; (with_reducible repeat (first | refine qg ?_ _ | refine qh ?_ | refine qf ?_ _)); exact BK228.out) hb); have n4_ := qa.mk (qj (by repeat (first | (with_reducible first | exact HB.out | apply qc | apply qb | apply qd | refine qe ?_ GE223.out | refine qe ?_ GE228.out) | exact HB.out)) hb); clear HO221; clear HO226; clear BK223; clear BK228; clear HB; have HO221 := n0_; have HO226 := n1_; have BK223 := n2_; have BK228 := n3_; have HB := n4_; clear n0_ n1_ n2_ n3_ n4_; (try clear hb); (try clear hb2); (try clear hk); (try clear hi)))
     go_ret
     exact ⟨by first | rfl | (simp [qq, qp] <;> rfl) | (simp [*, qq, qp] <;> rfl), by repeat (first | (with_reducible first | exact HB.out | apply qc | apply qb | apply qd | refine qe ?_ GE223.out | refine qe ?_ GE228.out) | exact HB.out)⟩
   ·rw [if_neg c5] at H
    have c5b0 : ((t219.length : Int) == 2) = false := beq_eq_false_iff_ne.mpr c5
    have c5b1 : ((t219.length : Int) != 2) = true := bne_iff_ne.mpr c5
    obtain rfl := Option.some.inj H
    go_enter Tryd.func9, Tryd.ntmps9
    go_wp2_with (first | ((with_reducible refine zk (f := 21) rfl ?_); refine xv (some 6) rfl rfl Tryd.func21 (by kernel_rfl) rfl #[.string (⟨#[67, 78, 61, 87, 101, 98, 32, 83, 101, 114, 118, 101, 114, 44, 79, 61, 69, 120, 97, 109, 112, 108, 101]⟩ : ByteArray)] rfl (by (try simp only [List.map_toArray, List.map_cons, List.map_nil]); first | done | rfl | (simp only [List.length_drop, List.length_take]; rfl)) ?_; (with_reducible refine (q8.calls k (⟨#[67, 78, 61, 87, 101, 98, 32, 83, 101, 114, 118, 101, 114, 44, 79, 61, 69, 120, 97, 109, 112, 108, 101]⟩ : ByteArray) t219 t222 _ ?side1 A1.out).mono ?_); (case side1 => exact LibHeld.below HG.out (by repeat (first | (with_reducible first | exact HB.out | apply qc | apply qb | apply qd) | exact HB.out))); rintro e w33 ⟨v220, rfl, ho0, hb⟩; refine ⟨_, rfl, ?_⟩; have n0_ := qa.mk (Kd.S_lower ho0 (qm (by repeat (first | (with_reducible first | exact HB.out | apply qc | apply qb | apply qd) | exact HB.out)))); have n1_ := qa.mk (qj (by repeat (first | (with_reducible first | exact HB.out | apply qc | apply qb | apply qd) | exact HB.out)) hb); clear HB; have HO221 := n0_; have HB := n1_; clear n0_ n1_; (try clear hb); (try clear hb2); (try clear hk); (try clear hi); (try clear ho0)) | ((with_reducible refine zd (N := 1) rfl ?_); (try (refine xl (by rfl) ?_; dsimp only)); refine zg ?hg (N := 1) ?hd (cs := #[.slice none 0 0]) (t := 24) ?hr ?_; (case hd => rfl); (case hg => rfl); (case hr => first | (go_simp; done) | (go_simp; rfl)); intro gb223 hg w34 hbox hb; have n0_ := qa.mk (Kd.xz (by (with_reducible repeat (first | apply Kd.z8 | apply Kd.z7 | apply Kd.xn)); exact HO221.out) hb); have n1_ := qa.mk (qj (by repeat (first | (with_reducible first | exact HB.out | apply qc | apply qb | apply qd) | exact HB.out)) hb); have n2_ := qa.mk (hbox); have n3_ := qa.mk ((by rw [hg]; exact (qm (by repeat (first | (with_reducible first | exact HB.out | apply qc | apply qb | apply qd) | exact HB.out))) : w.heap.size ≤ gb223)); have n4_ := qa.mk ((by rw [hg]; exact (qm (by repeat (first | (with_reducible first | exact HB.out | apply qc | apply qb | apply qd) | exact HB.out))) : w.heap.size ≤ gb223)); clear HO221; clear HB; have HO221 := n0_; have HB := n1_; have BK223 := n2_; have GW223 := n3_; have GE223 := n4_; clear n0_ n1_ n2_ n3_ n4_; clear hb hbox hg; obtain ⟨Ao35, co35, eo35⟩ := Kd.ku HO221.out; subst eo35; have hcz36_0 : w34.cell? ⟨gb223, 0, none⟩ = some (.slice none 0 0) := (qi BK223.out 0).trans rfl; have hfz36_0 := qk BK223.out 0) | ((with_reducible refine zk (f := 21) rfl ?_); refine xv (some 10) rfl rfl Tryd.func21 (by kernel_rfl) rfl #[.string (⟨#[67, 78, 61, 119, 101, 98, 32, 32, 115, 101, 114, 118, 101, 114, 44, 79, 61, 69, 88, 65, 77, 80, 76, 69]⟩ : ByteArray)] rfl (by (try simp only [List.map_toArray, List.map_cons, List.map_nil]); first | done | rfl | (simp only [List.length_drop, List.length_take]; rfl)) ?_; (with_reducible refine (q8.calls k (⟨#[67, 78, 61, 119, 101, 98, 32, 32, 115, 101, 114, 118, 101, 114, 44, 79, 61, 69, 88, 65, 77, 80, 76, 69]⟩ : ByteArray) t224 t227 _ ?side1 A2.out).mono ?_); (case side1 => exact LibHeld.below HG.out (by repeat (first | (with_reducible first | exact HB.out | apply qc | apply qb | apply qd | refine qe ?_ GE223.out) | exact HB.out))); rintro e w37 ⟨v225, rfl, ho0, hb⟩; refine ⟨_, rfl, ?_⟩; have n0_ := qa.mk (Kd.S_elder' (by (with_reducible repeat (first | apply Kd.z8 | apply Kd.z7 | apply Kd.xn)); exact (Kd.kd (Kd.S_far (p := ⟨gb223, 0, none⟩) (Kd.kp HO221.out BK223.out (by decide)) (fun _ hk => hk.2) (.slice Ao35 t219.length co35)) (fun _ h_ => h_.1))) (Kd.S_base ho0) hb); have n1_ := qa.mk (Kd.S_lower (Kd.S_new' ho0 (Kd.S_lt (by (with_reducible repeat (first | apply Kd.z8 | apply Kd.z7 | apply Kd.xn)); exact (Kd.kd (Kd.S_far (p := ⟨gb223, 0, none⟩) (Kd.kp HO221.out BK223.out (by decide)) (fun _ hk => hk.2) (.slice Ao35 t219.length co35)) (fun _ h_ => h_.1))))) (qm (by repeat (first | (with_reducible first | exact HB.out | apply qc | apply qb | apply qd | refine qe ?_ GE223.out) | exact HB.out)))); have n2_ := qa.mk (qt (g := gb223) (o := .cells #[.slice Ao35 t219.length co35] 24 (0, 0)) (by (with_reducible repeat (first | refine qg ?_ _ | refine qh ?_ | refine qf ?_ _)); refine zw (cs := #[.slice none 0 0]) ?_ 0 _ rfl; (with_reducible repeat (first | refine qg ?_ _ | refine qh ?_ | refine qf ?_ _)); exact BK223.out) hb); have n3_ := qa.mk (qj (by repeat (first | (with_reducible first | exact HB.out | apply qc | apply qb | apply qd | refine qe ?_ GE223.out) | exact HB.out)) hb); clear HO221; clear BK223; clear HB; have HO221 := n0_; have HO226 := n1_; have BK223 := n2_; have HB := n3_; clear n0_ n1_ n2_ n3_; (try clear hb); (try clear hb2); (try clear hk); (try clear hi); (try clear ho0)) | ((with_reducible refine zd (N := 3) rfl ?_); (try (refine xl (by rfl) ?_; dsimp only)); refine zg ?hg (N := 3) ?hd (cs := #[.slice none 0 0]) (t := 24) ?hr ?_; (case hd => rfl); (case hg => rfl); (case hr => first | (go_simp; done) | (go_simp; rfl)); intro gb228 hg w38 hbox hb; have n0_ := qa.mk (Kd.xz (by (with_reducible repeat (first | apply Kd.z8 | apply Kd.z7 | apply Kd.xn)); exact HO221.out) hb); have n1_ := qa.mk (Kd.xz (by (with_reducible repeat (first | apply Kd.z8 | apply Kd.z7 | apply Kd.xn)); exact HO226.out) hb); have n2_ := qa.mk (qt (g := gb223) (o := .cells #[.slice Ao35 t219.length co35] 24 (0, 0)) (by (with_reducible repeat (first | refine qg ?_ _ | refine qh ?_ | refine qf ?_ _)); exact BK223.out) hb); have n3_ := qa.mk (qj (by repeat (first | (with_reducible first | exact HB.out | apply qc | apply qb | apply qd | refine qe ?_ GE223.out) | exact HB.out)) hb); have n4_ := qa.mk (hbox); have n5_ := qa.mk ((by rw [hg]; exact (qm (by repeat (first | (with_reducible first | exact HB.out | apply qc | apply qb | apply qd | refine qe ?_ GE223.out) | exact HB.out))) : w.heap.size ≤ gb228)); have n6_ := qa.mk ((by rw [hg]; exact (qm (by repeat (first | (with_reducible first | exact HB.out | apply qc | apply qb | apply qd | refine qe ?_ GE223.out) | exact HB.out))) : w.heap.size ≤ gb228)); have n7_ := qa.mk ((by rw [hg]; exact Nat.ne_of_lt (zl (g := gb223) (o := .cells #[.slice Ao35 t219.length co35] 24 (0, 0)) (by (with_reducible repeat (first | refine qg ?_ _ | refine qh ?_ | refine qf ?_ _)); exact BK223.out)) : gb223 ≠ gb228)); have n8_ := qa.mk ((by rw [hg]; exact Nat.ne_of_gt (zl (g := gb223) (o := .cells #[.slice Ao35 t219.length co35] 24 (0, 0)) (by (with_reducible repeat (first | refine qg ?_ _ | refine qh ?_ | refine qf ?_ _)); exact BK223.out)) : gb228 ≠ gb223)); clear HO221; clear HO226; clear BK223; clear HB; have HO221 := n0_; have HO226 := n1_; have BK223 := n2_; have HB := n3_; have BK228 := n4_; have GW228 := n5_; have GE228 := n6_; have NB223_228 := n7_; have NB228_223 := n8_; clear n0_ n1_ n2_ n3_ n4_ n5_ n6_ n7_ n8_; clear hb hbox hg; obtain ⟨Ao39, co39, eo39⟩ := Kd.ku HO226.out; subst eo39; have hnb40 := NB228_223.out; have hnc40 := NB223_228.out; have hcz41_0 : w38.cell? ⟨gb228, 0, none⟩ = some (.slice none 0 0) := (qi BK228.out 0).trans rfl; have hfz41_0 := qk BK228.out 0; have hcz42_0 : w38.cell? ⟨gb223, 0, none⟩ = some (.slice Ao35 t219.length co35) := (qi BK223.out 0).trans rfl; have hfz42_0 := qk BK223.out 0))
    go_ret
    exact ⟨by first | rfl | (simp [qq, qp] <;> rfl) | (simp [*, qq, qp] <;> rfl), by repeat (first | (with_reducible first | exact HB.out | apply qc | apply qb | apply qd | refine qe ?_ GE223.out | refine qe ?_ GE228.out) | exact HB.out)⟩
  ·rw [if_neg c4] at H
   have c4b0 : (t227 == 0) = false := beq_eq_false_iff_ne.mpr c4
   have c4b1 : (t227 != 0) = true := bne_iff_ne.mpr c4
   obtain rfl := Option.some.inj H
   go_enter Tryd.func9, Tryd.ntmps9
   go_wp2_with (first | ((with_reducible refine zk (f := 21) rfl ?_); refine xv (some 6) rfl rfl Tryd.func21 (by kernel_rfl) rfl #[.string (⟨#[67, 78, 61, 87, 101, 98, 32, 83, 101, 114, 118, 101, 114, 44, 79, 61, 69, 120, 97, 109, 112, 108, 101]⟩ : ByteArray)] rfl (by (try simp only [List.map_toArray, List.map_cons, List.map_nil]); first | done | rfl | (simp only [List.length_drop, List.length_take]; rfl)) ?_; (with_reducible refine (q8.calls k (⟨#[67, 78, 61, 87, 101, 98, 32, 83, 101, 114, 118, 101, 114, 44, 79, 61, 69, 120, 97, 109, 112, 108, 101]⟩ : ByteArray) t219 t222 _ ?side1 A1.out).mono ?_); (case side1 => exact LibHeld.below HG.out (by repeat (first | (with_reducible first | exact HB.out | apply qc | apply qb | apply qd) | exact HB.out))); rintro e w43 ⟨v220, rfl, ho0, hb⟩; refine ⟨_, rfl, ?_⟩; have n0_ := qa.mk (Kd.S_lower ho0 (qm (by repeat (first | (with_reducible first | exact HB.out | apply qc | apply qb | apply qd) | exact HB.out)))); have n1_ := qa.mk (qj (by repeat (first | (with_reducible first | exact HB.out | apply qc | apply qb | apply qd) | exact HB.out)) hb); clear HB; have HO221 := n0_; have HB := n1_; clear n0_ n1_; (try clear hb); (try clear hb2); (try clear hk); (try clear hi); (try clear ho0)) | ((with_reducible refine zd (N := 1) rfl ?_); (try (refine xl (by rfl) ?_; dsimp only)); refine zg ?hg (N := 1) ?hd (cs := #[.slice none 0 0]) (t := 24) ?hr ?_; (case hd => rfl); (case hg => rfl); (case hr => first | (go_simp; done) | (go_simp; rfl)); intro gb223 hg w44 hbox hb; have n0_ := qa.mk (Kd.xz (by (with_reducible repeat (first | apply Kd.z8 | apply Kd.z7 | apply Kd.xn)); exact HO221.out) hb); have n1_ := qa.mk (qj (by repeat (first | (with_reducible first | exact HB.out | apply qc | apply qb | apply qd) | exact HB.out)) hb); have n2_ := qa.mk (hbox); have n3_ := qa.mk ((by rw [hg]; exact (qm (by repeat (first | (with_reducible first | exact HB.out | apply qc | apply qb | apply qd) | exact HB.out))) : w.heap.size ≤ gb223)); have n4_ := qa.mk ((by rw [hg]; exact (qm (by repeat (first | (with_reducible first | exact HB.out | apply qc | apply qb | apply qd) | exact HB.out))) : w.heap.size ≤ gb223)); clear HO221; clear HB; have HO221 := n0_; have HB := n1_; have BK223 := n2_; have GW223 := n3_; have GE223 := n4_; clear n0_ n1_ n2_ n3_ n4_; clear hb hbox hg; obtain ⟨Ao45, co45, eo45⟩ := Kd.ku HO221.out; subst eo45; have hcz46_0 : w44.cell? ⟨gb223, 0, none⟩ = some (.slice none 0 0) := (qi BK223.out 0).trans rfl; have hfz46_0 := qk BK223.out 0) | ((with_reducible refine zk (f := 21) rfl ?_); refine xv (some 10) rfl rfl Tryd.func21 (by kernel_rfl) rfl #[.string (⟨#[67, 78, 61, 119, 101, 98, 32, 32, 115, 101, 114, 118, 101, 114, 44, 79, 61, 69, 88, 65, 77, 80, 76, 69]⟩ : ByteArray)] rfl (by (try simp only [List.map_toArray, List.map_cons, List.map_nil]); first | done | rfl | (simp only [List.length_drop, List.length_take]; rfl)) ?_; (with_reducible refine (q8.calls k (⟨#[67, 78, 61, 119, 101, 98, 32, 32, 115, 101, 114, 118, 101, 114, 44, 79, 61, 69, 88, 65, 77, 80, 76, 69]⟩ : ByteArray) t224 t227 _ ?side1 A2.out).mono ?_); (case side1 => exact LibHeld.below HG.out (by repeat (first | (with_reducible first | exact HB.out | apply qc | apply qb | apply qd | refine qe ?_ GE223.out) | exact HB.out))); rintro e w47 ⟨v225, rfl, ho0, hb⟩; refine ⟨_, rfl, ?_⟩; have n0_ := qa.mk (Kd.S_elder' (by (with_reducible repeat (first | apply Kd.z8 | apply Kd.z7 | apply Kd.xn)); exact (Kd.kd (Kd.S_far (p := ⟨gb223, 0, none⟩) (Kd.kp HO221.out BK223.out (by decide)) (fun _ hk => hk.2) (.slice Ao45 t219.length co45)) (fun _ h_ => h_.1))) (Kd.S_base ho0) hb); have n1_ := qa.mk (Kd.S_lower (Kd.S_new' ho0 (Kd.S_lt (by (with_reducible repeat (first | apply Kd.z8 | apply Kd.z7 | apply Kd.xn)); exact (Kd.kd (Kd.S_far (p := ⟨gb223, 0, none⟩) (Kd.kp HO221.out BK223.out (by decide)) (fun _ hk => hk.2) (.slice Ao45 t219.length co45)) (fun _ h_ => h_.1))))) (qm (by repeat (first | (with_reducible first | exact HB.out | apply qc | apply qb | apply qd | refine qe ?_ GE223.out) | exact HB.out)))); have n2_ := qa.mk (qt (g := gb223) (o := .cells #[.slice Ao45 t219.length co45] 24 (0, 0)) (by (with_reducible repeat (first | refine qg ?_ _ | refine qh ?_ | refine qf ?_ _)); refine zw (cs := #[.slice none 0 0]) ?_ 0 _ rfl; (with_reducible repeat (first | refine qg ?_ _ | refine qh ?_ | refine qf ?_ _)); exact BK223.out) hb); have n3_ := qa.mk (qj (by repeat (first | (with_reducible first | exact HB.out | apply qc | apply qb | apply qd | refine qe ?_ GE223.out) | exact HB.out)) hb); clear HO221; clear BK223; clear HB; have HO221 := n0_; have HO226 := n1_; have BK223 := n2_; have HB := n3_; clear n0_ n1_ n2_ n3_; (try clear hb); (try clear hb2); (try clear hk); (try clear hi); (try clear ho0)) | ((with_reducible refine zd (N := 3) rfl ?_); (try (refine xl (by rfl) ?_; dsimp only)); refine zg ?hg (N := 3) ?hd (cs := #[.slice none 0 0]) (t := 24) ?hr ?_; (case hd => rfl); (case hg => rfl); (case hr => first | (go_simp; done) | (go_simp; rfl)); intro gb228 hg w48 hbox hb; have n0_ := qa.mk (Kd.xz (by (with_reducible repeat (first | apply Kd.z8 | apply Kd.z7 | apply Kd.xn)); exact HO221.out) hb); have n1_ := qa.mk (Kd.xz (by (with_reducible repeat (first | apply Kd.z8 | apply Kd.z7 | apply Kd.xn)); exact HO226.out) hb); have n2_ := qa.mk (qt (g := gb223) (o := .cells #[.slice Ao45 t219.length co45] 24 (0, 0)) (by (with_reducible repeat (first | refine qg ?_ _ | refine qh ?_ | refine qf ?_ _)); exact BK223.out) hb); have n3_ := qa.mk (qj (by repeat (first | (with_reducible first | exact HB.out | apply qc | apply qb | apply qd | refine qe ?_ GE223.out) | exact HB.out)) hb); have n4_ := qa.mk (hbox); have n5_ := qa.mk ((by rw [hg]; exact (qm (by repeat (first | (with_reducible first | exact HB.out | apply qc | apply qb | apply qd | refine qe ?_ GE223.out) | exact HB.out))) : w.heap.size ≤ gb228)); have n6_ := qa.mk ((by rw [hg]; exact (qm (by repeat (first | (with_reducible first | exact HB.out | apply qc | apply qb | apply qd | refine qe ?_ GE223.out) | exact HB.out))) : w.heap.size ≤ gb228)); have n7_ := qa.mk ((by rw [hg]; exact Nat.ne_of_lt (zl (g := gb223) (o := .cells #[.slice Ao45 t219.length co45] 24 (0, 0)) (by (with_reducible repeat (first | refine qg ?_ _ | refine qh ?_ | refine qf ?_ _)); exact BK223.out)) : gb223 ≠ gb228)); have n8_ := qa.mk ((by rw [hg]; exact Nat.ne_of_gt (zl (g := gb223) (o := .cells #[.slice Ao45 t219.length co45] 24 (0, 0)) (by (with_reducible repeat (first | refine qg ?_ _ | refine qh ?_ | refine qf ?_ _)); exact BK223.out)) : gb228 ≠ gb223)); clear HO221; clear HO226; clear BK223; clear HB; have HO221 := n0_; have HO226 := n1_; have BK223 := n2_; have HB := n3_; have BK228 := n4_; have GW228 := n5_; have GE228 := n6_; have NB223_228 := n7_; have NB228_223 := n8_; clear n0_ n1_ n2_ n3_ n4_ n5_ n6_ n7_ n8_; clear hb hbox hg; obtain ⟨Ao49, co49, eo49⟩ := Kd.ku HO226.out; subst eo49; have hnb50 := NB228_223.out; have hnc50 := NB223_228.out; have hcz51_0 : w48.cell? ⟨gb228, 0, none⟩ = some (.slice none 0 0) := (qi BK228.out 0).trans rfl; have hfz51_0 := qk BK228.out 0))
   go_ret
   exact ⟨by first | rfl | (simp [qq, qp] <;> rfl) | (simp [*, qq, qp] <;> rfl), by repeat (first | (with_reducible first | exact HB.out | apply qc | apply qb | apply qd | refine qe ?_ GE223.out | refine qe ?_ GE228.out) | exact HB.out)⟩
 ·rw [if_neg c3] at H
  have c3b0 : (t222 == 0) = false := beq_eq_false_iff_ne.mpr c3
  have c3b1 : (t222 != 0) = true := bne_iff_ne.mpr c3
  obtain rfl := Option.some.inj H
  go_enter Tryd.func9, Tryd.ntmps9
  go_wp2_with (first | ((with_reducible refine zk (f := 21) rfl ?_); refine xv (some 6) rfl rfl Tryd.func21 (by kernel_rfl) rfl #[.string (⟨#[67, 78, 61, 87, 101, 98, 32, 83, 101, 114, 118, 101, 114, 44, 79, 61, 69, 120, 97, 109, 112, 108, 101]⟩ : ByteArray)] rfl (by (try simp only [List.map_toArray, List.map_cons, List.map_nil]); first | done | rfl | (simp only [List.length_drop, List.length_take]; rfl)) ?_; (with_reducible refine (q8.calls k (⟨#[67, 78, 61, 87, 101, 98, 32, 83, 101, 114, 118, 101, 114, 44, 79, 61, 69, 120, 97, 109, 112, 108, 101]⟩ : ByteArray) t219 t222 _ ?side1 A1.out).mono ?_); (case side1 => exact LibHeld.below HG.out (by repeat (first | (with_reducible first | exact HB.out | apply qc | apply qb | apply qd) | exact HB.out))); rintro e w52 ⟨v220, rfl, ho0, hb⟩; refine ⟨_, rfl, ?_⟩; have n0_ := qa.mk (Kd.S_lower ho0 (qm (by repeat (first | (with_reducible first | exact HB.out | apply qc | apply qb | apply qd) | exact HB.out)))); have n1_ := qa.mk (qj (by repeat (first | (with_reducible first | exact HB.out | apply qc | apply qb | apply qd) | exact HB.out)) hb); clear HB; have HO221 := n0_; have HB := n1_; clear n0_ n1_; (try clear hb); (try clear hb2); (try clear hk); (try clear hi); (try clear ho0)) | ((with_reducible refine zd (N := 1) rfl ?_); (try (refine xl (by rfl) ?_; dsimp only)); refine zg ?hg (N := 1) ?hd (cs := #[.slice none 0 0]) (t := 24) ?hr ?_; (case hd => rfl); (case hg => rfl); (case hr => first | (go_simp; done) | (go_simp; rfl)); intro gb223 hg w53 hbox hb; have n0_ := qa.mk (Kd.xz (by (with_reducible repeat (first | apply Kd.z8 | apply Kd.z7 | apply Kd.xn)); exact HO221.out) hb); have n1_ := qa.mk (qj (by repeat (first | (with_reducible first | exact HB.out | apply qc | apply qb | apply qd) | exact HB.out)) hb); have n2_ := qa.mk (hbox); have n3_ := qa.mk ((by rw [hg]; exact (qm (by repeat (first | (with_reducible first | exact HB.out | apply qc | apply qb | apply qd) | exact HB.out))) : w.heap.size ≤ gb223)); have n4_ := qa.mk ((by rw [hg]; exact (qm (by repeat (first | (with_reducible first | exact HB.out | apply qc | apply qb | apply qd) | exact HB.out))) : w.heap.size ≤ gb223)); clear HO221; clear HB; have HO221 := n0_; have HB := n1_; have BK223 := n2_; have GW223 := n3_; have GE223 := n4_; clear n0_ n1_ n2_ n3_ n4_; clear hb hbox hg; obtain ⟨Ao54, co54, eo54⟩ := Kd.ku HO221.out; subst eo54; have hcz55_0 : w53.cell? ⟨gb223, 0, none⟩ = some (.slice none 0 0) := (qi BK223.out 0).trans rfl; have hfz55_0 := qk BK223.out 0) | ((with_reducible refine zk (f := 21) rfl ?_); refine xv (some 10) rfl rfl Tryd.func21 (by kernel_rfl) rfl #[.string (⟨#[67, 78, 61, 119, 101, 98, 32, 32, 115, 101, 114, 118, 101, 114, 44, 79, 61, 69, 88, 65, 77, 80, 76, 69]⟩ : ByteArray)] rfl (by (try simp only [List.map_toArray, List.map_cons, List.map_nil]); first | done | rfl | (simp only [List.length_drop, List.length_take]; rfl)) ?_; (with_reducible refine (q8.calls k (⟨#[67, 78, 61, 119, 101, 98, 32, 32, 115, 101, 114, 118, 101, 114, 44, 79, 61, 69, 88, 65, 77, 80, 76, 69]⟩ : ByteArray) t224 t227 _ ?side1 A2.out).mono ?_); (case side1 => exact LibHeld.below HG.out (by repeat (first | (with_reducible first | exact HB.out | apply qc | apply qb | apply qd | refine qe ?_ GE223.out) | exact HB.out))); rintro e w56 ⟨v225, rfl, ho0, hb⟩; refine ⟨_, rfl, ?_⟩; have n0_ := qa.mk (Kd.S_elder' (by (with_reducible repeat (first | apply Kd.z8 | apply Kd.z7 | apply Kd.xn)); exact (Kd.kd (Kd.S_far (p := ⟨gb223, 0, none⟩) (Kd.kp HO221.out BK223.out (by decide)) (fun _ hk => hk.2) (.slice Ao54 t219.length co54)) (fun _ h_ => h_.1))) (Kd.S_base ho0) hb); have n1_ := qa.mk (Kd.S_lower (Kd.S_new' ho0 (Kd.S_lt (by (with_reducible repeat (first | apply Kd.z8 | apply Kd.z7 | apply Kd.xn)); exact (Kd.kd (Kd.S_far (p := ⟨gb223, 0, none⟩) (Kd.kp HO221.out BK223.out (by decide)) (fun _ hk => hk.2) (.slice Ao54 t219.length co54)) (fun _ h_ => h_.1))))) (qm (by repeat (first | (with_reducible first | exact HB.out | apply qc | apply qb | apply qd | refine qe ?_ GE223.out) | exact HB.out)))); have n2_ := qa.mk (qt (g := gb223) (o := .cells #[.slice Ao54 t219.length co54] 24 (0, 0)) (by (with_reducible repeat (first | refine qg ?_ _ | refine qh ?_ | refine qf ?_ _)); refine zw (cs := #[.slice none 0 0]) ?_ 0 _ rfl; (with_reducible repeat (first | refine qg ?_ _ | refine qh ?_ | refine qf ?_ _)); exact BK223.out) hb); have n3_ := qa.mk (qj (by repeat (first | (with_reducible first | exact HB.out | apply qc | apply qb | apply qd | refine qe ?_ GE223.out) | exact HB.out)) hb); clear HO221; clear BK223; clear HB; have HO221 := n0_; have HO226 := n1_; have BK223 := n2_; have HB := n3_; clear n0_ n1_ n2_ n3_; (try clear hb); (try clear hb2); (try clear hk); (try clear hi); (try clear ho0)) | ((with_reducible refine zd (N := 3) rfl ?_); (try (refine xl (by rfl) ?_; dsimp only)); refine zg ?hg (N := 3) ?hd (cs := #[.slice none 0 0]) (t := 24) ?hr ?_; (case hd => rfl); (case hg => rfl); (case hr => first | (go_simp; done) | (go_simp; rfl)); intro gb228 hg w57 hbox hb; have n0_ := qa.mk (Kd.xz (by (with_reducible repeat (first | apply Kd.z8 | apply Kd.z7 | apply Kd.xn)); exact HO221.out) hb); have n1_ := qa.mk (Kd.xz (by (with_reducible repeat (first | apply Kd.z8 | apply Kd.z7 | apply Kd.xn)); exact HO226.out) hb); have n2_ := qa.mk (qt (g := gb223) (o := .cells #[.slice Ao54 t219.length co54] 24 (0, 0)) (by (with_reducible repeat (first | refine qg ?_ _ | refine qh ?_ | refine qf ?_ _)); exact BK223.out) hb); have n3_ := qa.mk (qj (by repeat (first | (with_reducible first | exact HB.out | apply qc | apply qb | apply qd | refine qe ?_ GE223.out) | exact HB.out)) hb); have n4_ := qa.mk (hbox); have n5_ := qa.mk ((by rw [hg]; exact (qm (by repeat (first | (with_reducible first | exact HB.out | apply qc | apply qb | apply qd | refine qe ?_ GE223.out) | exact HB.out))) : w.heap.size ≤ gb228)); have n6_ := qa.mk ((by rw [hg]; exact (qm (by repeat (first | (with_reducible first | exact HB.out | apply qc | apply qb | apply qd | refine qe ?_ GE223.out) | exact HB.out))) : w.heap.size ≤ gb228)); have n7_ := qa.mk ((by rw [hg]; exact Nat.ne_of_lt (zl (g := gb223) (o := .cells #[.slice Ao54 t219.length co54] 24 (0, 0)) (by (with_reducible repeat (first | refine qg ?_ _ | refine qh ?_ | refine qf ?_ _)); exact BK223.out)) : gb223 ≠ gb228)); have n8_ := qa.mk ((by rw [hg]; exact Nat.ne_of_gt (zl (g := gb223) (o := .cells #[.slice Ao54 t219.length co54] 24 (0, 0)) (by (with_reducible repeat (first | refine qg ?_ _ | refine qh ?_ | refine qf ?_ _)); exact BK223.out)) : gb228 ≠ gb223)); clear HO221; clear HO226; clear BK223; clear HB; have HO221 := n0_; have HO226 := n1_; have BK223 := n2_; have HB := n3_; have BK228 := n4_; have GW228 := n5_; have GE228 := n6_; have NB223_228 := n7_; have NB228_223 := n8_; clear n0_ n1_ n2_ n3_ n4_ n5_ n6_ n7_ n8_; clear hb hbox hg; obtain ⟨Ao58, co58, eo58⟩ := Kd.ku HO226.out; subst eo58; have hnb59 := NB228_223.out; have hnc59 := NB223_228.out; have hcz60_0 : w57.cell? ⟨gb228, 0, none⟩ = some (.slice none 0 0) := (qi BK228.out 0).trans rfl; have hfz60_0 := qk BK228.out 0))
  go_ret
  exact ⟨by first | rfl | (simp [qq, qp] <;> rfl) | (simp [*, qq, qp] <;> rfl), by repeat (first | (with_reducible first | exact HB.out | apply qc | apply qb | apply qd | refine qe ?_ GE223.out | refine qe ?_ GE228.out) | exact HB.out)⟩
def z6.Pure : Prop := ∃ k, z6.f k  = some true
theorem z6.walk (P : z6.Pure)  (w : World) (hG : LibHeld w)  :
  Calls Tryd.prog 9 #[] w fun e w' => e = .returned (.bool true) ∧ Below w.heap.size w w' := by
 obtain ⟨k, h⟩ := P
 refine (z6.calls k  true w hG h).mono ?_
 rintro e w' ⟨rfl, hd⟩
 exact ⟨rfl, hd⟩
end Go.Proofs.YtjhlinifnjoefaaDoor.C
end
section
namespace Go.Proofs.YtjhlinifnjoefaaDoor.C
open Go.RowKit Go.Proofs.YtjhlinifnjoefaaDoorW.PrintWords Go.Proofs.YtjhlinifnjoefaaDoorW.PrintLast Go.Proofs.YtjhlinifnjoefaaDoorW.PrintMore
attribute [local go_sem] xr xp xw xx xf xe xq xo
set_option linter.unusedVariables false
set_option linter.unusedSimpArgs false
end Go.Proofs.YtjhlinifnjoefaaDoor.C
end
section
namespace Go.Proofs.YtjhlinifnjoefaaDoor.C
open Go.RowKit Go.Proofs.YtjhlinifnjoefaaDoorW.PrintWords Go.Proofs.YtjhlinifnjoefaaDoorW.PrintLast Go.Proofs.YtjhlinifnjoefaaDoorW.PrintMore
attribute [local go_sem] xr xp xw xx xf xe xq xo
set_option linter.unusedVariables false
set_option linter.unusedSimpArgs false
end Go.Proofs.YtjhlinifnjoefaaDoor.C
end
section
namespace Go.Proofs.YtjhlinifnjoefaaDoor.C
open Go.RowKit Go.Proofs.YtjhlinifnjoefaaDoorW.PrintWords Go.Proofs.YtjhlinifnjoefaaDoorW.PrintLast Go.Proofs.YtjhlinifnjoefaaDoorW.PrintMore
attribute [local go_sem] xr xp xw xx xf xe xq xo
set_option linter.unusedVariables false
set_option linter.unusedSimpArgs false
end Go.Proofs.YtjhlinifnjoefaaDoor.C
end
section
namespace Go.Proofs.YtjhlinifnjoefaaDoor.C
open Go.RowKit Go.Proofs.YtjhlinifnjoefaaDoorW.PrintWords Go.Proofs.YtjhlinifnjoefaaDoorW.PrintLast Go.Proofs.YtjhlinifnjoefaaDoorW.PrintMore
attribute [local go_sem] xr xp xw xx xf xe xq xo
set_option linter.unusedVariables false
set_option linter.unusedSimpArgs false
end Go.Proofs.YtjhlinifnjoefaaDoor.C
end
section
namespace Go.Proofs.YtjhlinifnjoefaaDoor.C
open Go.RowKit Go.Proofs.YtjhlinifnjoefaaDoorW.PrintWords Go.Proofs.YtjhlinifnjoefaaDoorW.PrintLast Go.Proofs.YtjhlinifnjoefaaDoorW.PrintMore
attribute [local go_sem] xr xp xw xx xf xe xq xo
set_option linter.unusedVariables false
set_option linter.unusedSimpArgs false
end Go.Proofs.YtjhlinifnjoefaaDoor.C
end
section
namespace Go.Proofs.YtjhlinifnjoefaaDoor.C
open Go.RowKit Go.Proofs.YtjhlinifnjoefaaDoorW.PrintWords Go.Proofs.YtjhlinifnjoefaaDoorW.PrintLast Go.Proofs.YtjhlinifnjoefaaDoorW.PrintMore
attribute [local go_sem] xr xp xw xx xf xe xq xo
set_option linter.unusedVariables false
set_option linter.unusedSimpArgs false
end Go.Proofs.YtjhlinifnjoefaaDoor.C
end
section
namespace Go.Proofs.YtjhlinifnjoefaaDoor.C
open Go.RowKit Go.Proofs.YtjhlinifnjoefaaDoorW.PrintWords Go.Proofs.YtjhlinifnjoefaaDoorW.PrintLast Go.Proofs.YtjhlinifnjoefaaDoorW.PrintMore
attribute [local go_sem] xr xp xw xx xf xe xq xo
set_option linter.unusedVariables false
set_option linter.unusedSimpArgs false
def lowC (c : Int) : Int := if 65 ≤ c ∧ c ≤ 90 then c + 32 else c
def lowTo (l : List Int) (i : Nat) : List Int := (l.take i).map lowC ++ l.drop i
theorem lowTo_length (l : List Int) (i : Nat) : (lowTo l i).length = l.length := by unfold lowTo; simp; omega
theorem lowTo_zero (l : List Int) : lowTo l 0 = l := by simp [lowTo]
theorem lowTo_all (l : List Int) : lowTo l l.length = l.map lowC := by simp [lowTo]
theorem lowTo_at (l : List Int) (i : Nat) (h : i < l.length) : (lowTo l i).getD i 0 = l.getD i 0 := by
 unfold lowTo
 have h1 : ((l.take i).map lowC).length = i := by simp; omega
 rw [List.getD_eq_getElem?_getD, List.getElem?_append_right (by omega), h1, Nat.sub_self, List.getElem?_drop, List.getD_eq_getElem?_getD]
 rfl
theorem lowTo_succ (l : List Int) (i : Nat) (h : i < l.length) : lowTo l (i + 1) = (lowTo l i).set i (lowC (l.getD i 0)) := by
 have h1 : ((l.take i).map lowC).length = i := by simp; omega
 unfold lowTo
 rw [List.set_append_right _ _ (by omega), h1, Nat.sub_self, List.drop_eq_getElem_cons h, List.set_cons_zero, List.take_succ_eq_append_getElem h, List.map_append, List.append_assoc]
 simp [List.getD_eq_getElem?_getD, List.getElem?_eq_getElem h]
def xg.f (a0 : ByteArray) : Option ByteArray := if a0.size ≤ 4294967280 then some (strOfNums ((bytesOf a0).map lowC)) else none
theorem blk_mark {W : World} {g t : Nat} {cs : Array Value} {mk : Nat × Nat} (h : W.heap[g]? = some (.cells cs t mk)) (i : Nat) (u : Value) : (W.setCell ⟨g, i, none⟩ u).heap[g]? = some (.cells (cs.set! i u) t mk) := by
 have hl := zl h
 rw [Array.getElem?_eq_getElem hl] at h
 injection h with h
 simp [World.setCell, hl, Array.getElem_modify, h]
theorem low_row {W : World} {g : Nat} {cs : Array Value} {mk : Nat × Nat} {l : List Int} (hb : W.heap[g]? = some (.cells cs 5 mk)) (hl : l.length ≤ 9223372036854775807) (hc : ∀ j, j < l.length → cs[j]? = some (.int .u8 (l.getD j 0))) :
  ReadsInt W .u8 (some ⟨g, 0, none⟩) l.length l := by
 refine ⟨rfl, hl, fun _ => ⟨⟨g, 0, none⟩, rfl, fun j hj => ?_⟩⟩
 rw [show (⟨g, 0, none⟩ : Addr).add j = ⟨g, j, none⟩ from add_plain g j, cell_of_row W g j cs _ mk hb]
 exact hc j hj
set_option maxHeartbeats 8000000 in
set_option maxRecDepth 100000 in
theorem xg.calls (a0 : ByteArray) (r : ByteArray) (w : World) (h : xg.f a0 = some r) :
  Calls Tryd.prog 23 #[.string a0] w fun e w' => e = .returned (.string r) ∧ Below w.heap.size w w' := by
 unfold xg.f at h
 split at h
 case isFalse => exact absurd h (by simp)
 rename_i hn
 obtain rfl := Option.some.inj h
 clear h
 have hn63 := qa.mk (show a0.size ≤ 9223372036854775807 by omega)
 have hlen : (bytesOf a0).length = a0.size := bytesOf_length a0
 go_enter Tryd.func23, Tryd.ntmps23
 have hr := Lib.run_convert_string_bytes (P := Tryd.prog) w 9 46 5 a0 Tryd.underlying9 Tryd.underlying46 Tryd.underlying5
 go_wp2
 have hb1 := qa.mk (Lib.bytesWorld_at_new w 5 a0)
 have HB1 := qa.mk (bytes_below (Below.refl w.heap.size w) (Nat.le_refl _) 5 a0)
 have hcs := qa.mk (fun j (hj : j < a0.size) => (show (Lib.bytesCells w 5 a0)[j]? = some (.int .u8 ((bytesOf a0).getD j 0)) by
  have h2 := Lib.bytesWorld_cell w 5 a0 j hj
  rw [cell_of_row _ _ _ _ _ _ hb1.out] at h2
  rw [h2]
  have h3 : j < a0.data.toList.length := by rw [data_length]; exact hj
  simp [bytesOf, List.getD_eq_getElem?_getD, List.getElem?_eq_getElem h3]))
 have hmk : a0.size ≤ (Lib.bytesCells w 5 a0).size := by simp [Lib.bytesCells]
 generalize Lib.bytesCells w 5 a0 = cs0 at hb1 hcs hmk
 generalize Lib.bytesWorld w 5 a0 = W1 at hb1 HB1 ⊢
 generalize grownCap w a0.size 0 5 = cp at hr ⊢
 clear hr
 have GB := qa.mk (Nat.le_refl w.heap.size)
 generalize hg : w.heap.size = g at hb1 GB ⊢
 have GB := qa.mk (show w.heap.size ≤ g from Nat.le_of_eq hg)
 clear hg
 obtain ⟨mk, hmk0, hb1⟩ : ∃ mk : Nat × Nat, a0.size ≤ mk.1 ∧ qa (W1.heap[g]? = some (.cells cs0 5 mk)) := ⟨_, hmk, hb1⟩
 have HMK := qa.mk hmk0
 clear hmk hmk0
 go_loopg [9] a0.size (fun kq v9 w' => ∃ (i : Nat) (cs : Array Value), v9 = .int .i64 i ∧ qa (i + kq = a0.size) ∧ qa (w'.heap[g]? = some (.cells cs 5 mk)) ∧ qa (∀ j, j < a0.size → cs[j]? = some (.int .u8 ((lowTo (bytesOf a0) i).getD j 0))) ∧ qa (Below w.heap.size w w'))
 case atStart => exact ⟨0, cs0, rfl, ⟨by omega⟩, hb1, ⟨by rw [lowTo_zero]; exact hcs.out⟩, HB1⟩
 case round =>
  obtain ⟨i, cs, rfl, hi, hb, hc, HB⟩ := hrel
  clear hb1 hcs HB1
  cases gk with
  | zero =>
   obtain rfl : i = a0.size := by have := hi.out; omega
   have hlt : decide ((a0.size : Int) < (a0.size : Int)) = false := decide_eq_false (by omega)
   have hcv := string_of_reads (P := Tryd.prog) (w := wr) (n := a0.size) (c := cp) (src := 46) (dst := 9) Tryd.underlying46 Tryd.underlying5 Tryd.underlying9 (by
    have h5 := low_row (l := lowTo (bytesOf a0) a0.size) hb.out (by rw [lowTo_length, hlen]; exact hn63.out) (by rw [lowTo_length, hlen]; exact hc.out)
    rw [lowTo_length, hlen] at h5
    exact h5)
   have hx : lowTo (bytesOf a0) a0.size = (bytesOf a0).map lowC := by rw [← hlen]; exact lowTo_all _
   rw [hx] at hcv
   clear hx hc
   go_wp2
   go_ret
   exact ⟨rfl, HB.out⟩
  | succ k1 =>
   have hlt0 : i < a0.size := by have := hi.out; omega
   have hlt : decide ((i : Int) < (a0.size : Int)) = true := decide_eq_true (by omega)
   have p0 : (0 ≤ (i : Int)) = True := eq_true (by omega)
   have p1 : ((i : Int) < (a0.size : Int)) = True := eq_true (by omega)
   have hcz : wr.cell? ⟨g, i, none⟩ = some (.int .u8 ((bytesOf a0).getD i 0)) := by
    rw [cell_of_row wr g i cs _ mk hb.out, hc.out i hlt0, lowTo_at _ _ (by omega)]
   have hfz : wr.frozen? ⟨g, i, none⟩ = false := by have h6 := hb.out; have h7 := HMK.out; simp [World.frozen?, h6]; omega
   obtain ⟨b, hbv⟩ : ∃ b, b = (bytesOf a0).getD i 0 := ⟨_, rfl⟩
   rw [← hbv] at hcz
   have HBV := qa.mk hbv
   clear hbv
   have nx : ∀ c : Int, ∀ j, j < a0.size → (cs.set! i (.int .u8 c))[j]? = some (.int .u8 (((lowTo (bytesOf a0) i).set i c).getD j 0)) := fun c j hj => by
    have hsz : i < cs.size := by
     have := hc.out i hlt0
     rcases Nat.lt_or_ge i cs.size with h | h
     ·exact h
     ·rw [Array.getElem?_eq_none h] at this; cases this
    rw [Array.set!_eq_setIfInBounds, Array.getElem?_setIfInBounds, List.getD_eq_getElem?_getD, List.getElem?_set]
    by_cases hij : i = j
    ·subst hij
     simp [hsz, lowTo_length, hlen, hlt0]
    ·simp only [hij, if_false]
     rw [hc.out j hj, List.getD_eq_getElem?_getD]
   have NX := qa.mk nx
   clear nx
   have wi := qa.mk (show wrap64 ((i : Int) + 1) = ((i + 1 : Nat) : Int) by unfold wrap64; omega)
   have HC : lowC b = b → qa (∀ j, j < a0.size → cs[j]? = some (.int .u8 ((lowTo (bytesOf a0) (i + 1)).getD j 0))) := fun h => ⟨fun j hj => by
    rw [lowTo_succ _ _ (by omega), ← HBV.out, h, hc.out j hj, List.getD_eq_getElem?_getD, List.getD_eq_getElem?_getD, List.getElem?_set]
    by_cases hij : i = j
    ·subst hij
     rw [if_pos rfl, if_pos (by rw [lowTo_length]; omega), HBV.out, ← lowTo_at _ _ (by omega), List.getD_eq_getElem?_getD, List.getElem?_eq_getElem (by rw [lowTo_length]; omega)]
     rfl
    ·rw [if_neg hij]⟩
   by_cases c1 : b ≥ 65
   ·have c1b : decide (b ≥ 65) = true := decide_eq_true c1
    by_cases c2 : b ≤ 90
    ·have c2b : decide (b ≤ 90) = true := decide_eq_true c2
     have LB : qa ((b + 32) % 256 = lowC b) := ⟨by unfold lowC; rw [if_pos ⟨c1, c2⟩]; omega⟩
     have hbk := hb
     clear c1 c2
     go_wp2
     go_roundg k1
     case measure => omega
     case rel => exact ⟨i + 1, _, by simp, ⟨by have := hi.out; omega⟩, ⟨blk_mark hb.out i _⟩, ⟨fun j hj => by rw [lowTo_succ _ _ (by omega), ← HBV.out, ← LB.out]; exact NX.out _ j hj⟩, ⟨qe HB.out GB.out⟩⟩
    ·have c2b : decide (b ≤ 90) = false := decide_eq_false c2
     have hl := HC (by unfold lowC; rw [if_neg (by omega)])
     clear c1 c2 HC
     go_wp2
     go_roundg k1
     case measure => omega
     case rel => exact ⟨i + 1, cs, by simp, ⟨by have := hi.out; omega⟩, hb, hl, HB⟩
   ·have c1b : decide (b ≥ 65) = false := decide_eq_false c1
    have hl := HC (by unfold lowC; rw [if_neg (by omega)])
    clear c1 HC
    go_wp2
    go_roundg k1
    case measure => omega
    case rel => exact ⟨i + 1, cs, by simp, ⟨by have := hi.out; omega⟩, hb, hl, HB⟩
end Go.Proofs.YtjhlinifnjoefaaDoor.C
end
section
namespace Go.Proofs.YtjhlinifnjoefaaDoor.C
open Go.RowKit Go.Proofs.YtjhlinifnjoefaaDoorW.PrintWords Go.Proofs.YtjhlinifnjoefaaDoorW.PrintLast Go.Proofs.YtjhlinifnjoefaaDoorW.PrintMore
attribute [local go_sem] xr xp xw xx xf xe xq xo
set_option linter.unusedVariables false
set_option linter.unusedSimpArgs false
mutual
def qv.l0 : Nat → ByteArray → List Int → Int → Option (ByteArray)
 | 0, _, _, _ => none
 | k + 1, x0, x3, x4 => if x4 < (x0.size : Int) then (if 0 ≤ x4 then (if (bt x0 x4) = 32 then (if (x3.length : Int) > 0 then (if 0 ≤ (wrap64 ((x3.length : Int) - 1)) then (if (wrap64 ((x3.length : Int) - 1)) < (x3.length : Int) then (qv.j1 k x0 x3 x4 ((rd x3 (wrap64 ((x3.length : Int) - 1))) != 32)) else (none)) else (none)) else (qv.j1 k x0 x3 x4 false)) else (qv.j1 k x0 x3 x4 true)) else (none)) else (if (x3.length : Int) > 0 then (if 0 ≤ (wrap64 ((x3.length : Int) - 1)) then (if (wrap64 ((x3.length : Int) - 1)) < (x3.length : Int) then (if (rd x3 (wrap64 ((x3.length : Int) - 1))) = 32 then (if (wrap64 ((x3.length : Int) - 1)) ≤ (x3.length : Int) then (some (strOfNums (x3.take ((wrap64 ((x3.length : Int) - 1)) : Int).toNat))) else (none)) else (some (strOfNums x3))) else (none)) else (none)) else (some (strOfNums x3)))
def qv.j1 : Nat → ByteArray → List Int → Int → Bool → Option (ByteArray)
 | 0, _, _, _, _ => none
 | k + 1, x0, x3, x4, x30 => if x30 = true then (if 0 ≤ x4 then (if x4 < (x0.size : Int) then (if x3.length < 140737488355328 then (qv.l0 k x0 (x3 ++ [bt x0 x4]) (wrap64 (x4 + 1))) else (none)) else (none)) else (none)) else (qv.l0 k x0 x3 (wrap64 (x4 + 1)))
end
def qv.f (k : Nat) (a0 : ByteArray) : Option (ByteArray) := (xg.f a0).bind fun t254 => (qv.l0 k t254 ([] : List Int) 0)
theorem qv.xu : ∀ k, (∀ y0 y1 y2, LeO (qv.l0 k y0 y1 y2) (qv.l0 (k + 1) y0 y1 y2)) ∧ (∀ y0 y1 y2 y3, LeO (qv.j1 k y0 y1 y2 y3) (qv.j1 (k + 1) y0 y1 y2 y3))
 | 0 => ⟨fun _ _ _ r h => by simp [qv.l0] at h, fun _ _ _ _ r h => by simp [qv.j1] at h⟩
 | k + 1 => by
  obtain ⟨ih0, ih1⟩ := qv.xu k
  refine ⟨?_, ?_⟩
  ·intro y0 y1 y2
   unfold qv.l0
   repeat' first
   | (with_reducible exact ih0 _ _ _)
   | (with_reducible exact ih1 _ _ _ _)
   | (with_reducible exact LeO.refl _)
   | (with_reducible exact LeO.none _)
   | (with_reducible refine LeO.ite ?_ ?_)
   | (with_reducible refine LeO.bind ?_ (fun _ => ?_))
  ·intro y0 y1 y2 y3
   unfold qv.j1
   repeat' first
   | (with_reducible exact ih0 _ _ _)
   | (with_reducible exact ih1 _ _ _ _)
   | (with_reducible exact LeO.refl _)
   | (with_reducible exact LeO.none _)
   | (with_reducible refine LeO.ite ?_ ?_)
   | (with_reducible refine LeO.bind ?_ (fun _ => ?_))
theorem qv.mono : ∀ a0 k, LeO (qv.f k a0) (qv.f (k + 1) a0) := by
 intro a0 k
 obtain ⟨ih0, ih1⟩ := qv.xu k
 unfold qv.f
 repeat' first
   | (with_reducible exact ih0 _ _ _)
   | (with_reducible exact ih1 _ _ _ _)
   | (with_reducible exact LeO.refl _)
   | (with_reducible exact LeO.none _)
   | (with_reducible refine LeO.ite ?_ ?_)
   | (with_reducible refine LeO.bind ?_ (fun _ => ?_))
set_option maxHeartbeats 8000000 in
set_option maxRecDepth 100000 in
theorem qv.calls (k : Nat) (a0 : ByteArray) (r : ByteArray) (w : World) (h : qv.f k a0 = some r) :
  Calls Tryd.prog 61 #[.string a0] w fun e w' => e = .returned (.string r) ∧ Below w.heap.size w w' := by
 have HB := qa.mk (Below.refl w.heap.size w)
 have H : ((xg.f a0).bind fun t254 => (qv.l0 k t254 ([] : List Int) 0)) = some r := h
 clear h
 replace H := Option.bind_eq_some_iff.mp H
 obtain ⟨t254, A20, H⟩ := H
 replace H : (qv.l0 k t254 ([] : List Int) 0) = some r := H
 have A2 := qa.mk A20
 clear A20
 have H' := qa.mk H
 clear H
 go_enter Tryd.func61, Tryd.ntmps61
 go_wp2_with (first | ((with_reducible refine zk (f := 23) rfl ?_); refine xv (some 6) rfl rfl Tryd.func23 (by kernel_rfl) rfl #[.string a0] rfl (by (try simp only [List.map_toArray, List.map_cons, List.map_nil]); first | done | rfl | (simp only [List.length_drop, List.length_take]; rfl)) ?_; (with_reducible refine (xg.calls a0 t254 _ A2.out).mono ?_); rintro e w3 ⟨rfl, hb⟩; refine ⟨_, rfl, ?_⟩; have n0_ := qa.mk (qj (by repeat (first | (with_reducible first | exact HB.out | apply qc | apply qb | apply qd) | exact HB.out)) hb); clear HB; have HB := n0_; clear n0_; (try clear hb); (try clear hb2); (try clear hk); (try clear hi)))
 go_loopg [3, 4] k (fun kq v3 v4 w' => ∃ (x3_1 : List Int) (x4_1 : Int), v4 = .int .i64 x4_1 ∧ qa (qv.l0 kq t254 x3_1 x4_1 = some r) ∧ qa (kq ≤ k) ∧ qa (Kd.R (Kd.int .u8) 5 w' w.heap.size (fun _ => True) v3 x3_1) ∧ qa (Below w.heap.size w w'))
 case atStart => exact ⟨(([] : List Int)), (0), (by first | rfl | (simp; done) | (simp [*]; done)), H', ⟨Nat.le_refl _⟩, ⟨by first | exact Kd.R_nil _ _ _ _ _ | exact Kd.N_nil _ _ _ _ _ | exact Kd.V_nil _ _ _ _ _ | exact Kd.Q_nil _ _ _ _ _ | exact Kd.S_nil _ _ _ _ _⟩, ⟨by repeat (first | (with_reducible first | exact HB.out | apply qc | apply qb | apply qd) | exact HB.out)⟩⟩
 case round =>
  clear H'
  (try clear c2); try clear p2
  obtain ⟨x3_1, x4_1, rfl, HA, HK1, HO_3, HB⟩ := hrel
  cases gk with
  | zero => exact absurd HA.out (by simp [qv.l0])
  | succ k1 =>
   have H := HA.out
   clear HA
   simp only [qv.l0] at H
   by_cases c4 : x4_1 < (t254.size : Int)
   ·rw [if_pos c4] at H
    have c4b0 : decide (x4_1 < (t254.size : Int)) = true := decide_eq_true c4
    clear c4
    have HC5 := qa.mk H
    clear H
    go_upto_region 6 with (fail)
    go_cut [30] (fun v30 wc => ∃ (kq : Nat) (x30_4 : Bool), v30 = .bool x30_4 ∧ qa (qv.j1 kq t254 x3_1 x4_1 x30_4 = some r) ∧ qa (kq ≤ k1) ∧ qa (Kd.R (Kd.int .u8) 5 wc w.heap.size (fun _ => True) u3 x3_1) ∧ qa (Below w.heap.size w wc))
    case first =>
     have H := HC5.out
     clear HC5
     by_cases c6 : 0 ≤ x4_1
     ·rw [if_pos c6] at H
      have c6b0 : decide (0 ≤ x4_1) = true := decide_eq_true c6
      clear c6
      (first | rw [c6b0] | (simp only [qy, qz]; rw [c6b0]) | skip)
      by_cases c8 : (bt t254 x4_1) = 32
      ·rw [if_pos c8] at H
       have c8b0 : ((bt t254 x4_1) == 32) = true := beq_iff_eq.mpr c8
       have c8b1 : ((bt t254 x4_1) != 32) = false := bne_eq_false_iff_eq.mpr c8
       clear c8
       by_cases c9 : (x3_1.length : Int) > 0
       ·rw [if_pos c9] at H
        have c9b0 : decide (0 < (x3_1.length : Int)) = true := decide_eq_true c9
        have c9b1 : decide (0 < x3_1.length) = true := decide_eq_true (by omega)
        clear c9
        obtain ⟨ji10, hji10⟩ : ∃ j_ : Int, (wrap64 ((x3_1.length : Int) - 1)) = j_ := ⟨_, rfl⟩
        replace H : (if 0 ≤ (ji10) then (if (ji10) < (x3_1.length : Int) then (qv.j1 k1 t254 x3_1 x4_1 ((rd x3_1 (ji10)) != 32)) else (none)) else (none)) = some r := by first | (rw [hji10] at H; exact H) | (simp only [hji10] at H ⊢; exact H)
        have hji10w : (IntKind.i64.wrap ((x3_1.length : Int) - 1)) = ji10 := (qy _).trans hji10
        by_cases c11 : 0 ≤ (ji10)
        ·rw [if_pos c11] at H
         have c11b0 : decide (0 ≤ (ji10)) = true := decide_eq_true c11
         clear c11
         by_cases c12 : (ji10) < (x3_1.length : Int)
         ·rw [if_pos c12] at H
          have c12b0 : decide ((ji10) < (x3_1.length : Int)) = true := decide_eq_true c12
          clear c12
          have H' := qa.mk H
          clear H
          have p7 : 0 ≤ (x4_1 : Int) := of_decide_eq_true (by first | (with_reducible assumption) | assumption)
          have q7 : x4_1 < (t254.size : Int) := of_decide_eq_true (by first | (with_reducible assumption) | assumption)
          have hx7 := bt_at t254 x4_1
          replace p7 := eq_true p7
          replace q7 := eq_true q7
          obtain ⟨Ao13, co13, eo13⟩ := Kd.ko HO_3.out
          subst eo13
          have p255 : 0 ≤ ((ji10) : Int) := of_decide_eq_true (by first | (with_reducible assumption) | assumption)
          have q255 : (ji10) < (x3_1.length : Int) := of_decide_eq_true (by first | (with_reducible assumption) | assumption)
          obtain ⟨ad255, e255, hx255_0⟩ := Kd.at_int (Kd.kg HO_3.out).2.2 (ji10) p255 q255
          cases e255
          replace p255 := eq_true p255
          replace q255 := eq_true q255
          go_wp2
          go_meet
          case rel => exact ⟨_, (((rd x3_1 (ji10)) != 32)), (by first | rfl | (simp; done) | (simp only [← hji10] <;> (first | rfl | simp)) | (simp [*]; done)), H', ⟨by have := HK1.out; first | omega | exact Nat.le_refl _⟩, ⟨by (with_reducible repeat (first | apply Kd.zi | apply Kd.ze | apply Kd.zv)); exact HO_3.out⟩, ⟨by repeat (first | (with_reducible first | exact HB.out | apply qc | apply qb | apply qd) | exact HB.out)⟩⟩
         ·rw [if_neg c12] at H
          exact absurd H (by simp)
        ·rw [if_neg c11] at H
         exact absurd H (by simp)
       ·rw [if_neg c9] at H
        have c9b0 : decide (0 < (x3_1.length : Int)) = false := decide_eq_false c9
        have c9b1 : decide (0 < x3_1.length) = false := decide_eq_false (by omega)
        clear c9
        have H' := qa.mk H
        clear H
        have p7 : 0 ≤ (x4_1 : Int) := of_decide_eq_true (by first | (with_reducible assumption) | assumption)
        have q7 : x4_1 < (t254.size : Int) := of_decide_eq_true (by first | (with_reducible assumption) | assumption)
        have hx7 := bt_at t254 x4_1
        replace p7 := eq_true p7
        replace q7 := eq_true q7
        obtain ⟨Ao14, co14, eo14⟩ := Kd.ko HO_3.out
        subst eo14
        go_wp2
        go_meet
        case rel => exact ⟨_, (false), (by first | rfl | (simp; done) | (simp [*]; done)), H', ⟨by have := HK1.out; first | omega | exact Nat.le_refl _⟩, ⟨by (with_reducible repeat (first | apply Kd.zi | apply Kd.ze | apply Kd.zv)); exact HO_3.out⟩, ⟨by repeat (first | (with_reducible first | exact HB.out | apply qc | apply qb | apply qd) | exact HB.out)⟩⟩
      ·rw [if_neg c8] at H
       have c8b0 : ((bt t254 x4_1) == 32) = false := beq_eq_false_iff_ne.mpr c8
       have c8b1 : ((bt t254 x4_1) != 32) = true := bne_iff_ne.mpr c8
       have H' := qa.mk H
       clear H
       have p7 : 0 ≤ (x4_1 : Int) := of_decide_eq_true (by first | (with_reducible assumption) | assumption)
       have q7 : x4_1 < (t254.size : Int) := of_decide_eq_true (by first | (with_reducible assumption) | assumption)
       have hx7 := bt_at t254 x4_1
       replace p7 := eq_true p7
       replace q7 := eq_true q7
       go_wp2
       go_meet
       case rel => exact ⟨_, (true), (by first | rfl | (simp; done) | (simp [*]; done)), H', ⟨by have := HK1.out; first | omega | exact Nat.le_refl _⟩, ⟨by (with_reducible repeat (first | apply Kd.zi | apply Kd.ze | apply Kd.zv)); exact HO_3.out⟩, ⟨by repeat (first | (with_reducible first | exact HB.out | apply qc | apply qb | apply qd) | exact HB.out)⟩⟩
     ·rw [if_neg c6] at H
      exact absurd H (by simp)
    case rest =>
     clear HC5
     (try clear c1); (try clear c2); (try clear p2); (try clear q2); (try clear hx2); (try clear c4); (try clear c4b0); (try clear c6); (try clear c6b0); (try clear p6); (try clear p7); try clear q7
     (try clear hx7); (try clear c8); (try clear c8b0); (try clear c8b1); (try clear c9); (try clear c9b0); (try clear c9b1); (try clear c11); (try clear c11b0); (try clear c12); (try clear c12b0); try clear hx255_0
     (try clear p2); (try clear p255); (try clear p7); (try clear q255); try clear q7
     obtain ⟨kq, x30_4, rfl, HA, HJ4, HO_3, HB⟩ := hcut
     cases kq with
     | zero => exact absurd HA.out (by simp [qv.j1])
     | succ kj4 =>
      have H := HA.out
      clear HA
      simp only [qv.j1] at H
      by_cases c15 : x30_4 = true
      ·subst c15
       have H1 : (if 0 ≤ x4_1 then (if x4_1 < (t254.size : Int) then (if x3_1.length < 140737488355328 then (qv.l0 kj4 t254 (x3_1 ++ [bt t254 x4_1]) (wrap64 (x4_1 + 1))) else (none)) else (none)) else (none)) = some r := by rw [if_pos rfl] at H; exact H
       clear H
       have H := H1
       clear H1
       by_cases c16 : 0 ≤ x4_1
       ·rw [if_pos c16] at H
        have c16b0 : decide (0 ≤ x4_1) = true := decide_eq_true c16
        clear c16
        by_cases c17 : x4_1 < (t254.size : Int)
        ·rw [if_pos c17] at H
         have c17b0 : decide (x4_1 < (t254.size : Int)) = true := decide_eq_true c17
         clear c17
         by_cases c19 : x3_1.length < 140737488355328
         ·rw [if_pos c19] at H
          have LMc19 := qa.mk c19
          clear c19
          obtain ⟨y256, hy256⟩ : ∃ y_ : List Int, y_ = (x3_1 ++ [bt t254 x4_1]) := ⟨_, rfl⟩
          replace H : (qv.l0 kj4 t254 y256 (wrap64 (x4_1 + 1))) = some r := by first | (rw [hy256]; with_reducible exact H) | (have H2_ := (Option.bind_some _ _).symm.trans H; rw [hy256]; with_reducible exact H2_) | (have H2_ := (Option.bind_some _ _).symm.trans H; with_reducible exact H2_) | with_reducible exact H | (rw [hy256]; exact H) | exact H
          have Ny256 := qa.mk hy256
          clear hy256
          have H' := qa.mk H
          clear H
          have p18 : 0 ≤ (x4_1 : Int) := of_decide_eq_true (by first | (with_reducible assumption) | assumption)
          have q18 : x4_1 < (t254.size : Int) := of_decide_eq_true (by first | (with_reducible assumption) | assumption)
          have hx18 := bt_at t254 x4_1
          replace p18 := eq_true p18
          replace q18 := eq_true q18
          go_wp2_with (first | ((with_reducible refine xy (b := .append) (xs := #[.tmp 31, .tmp 35]) rfl ?_); (try (refine xl (by rfl) ?_; dsimp only)); at_builtin; refine Kd.kr (Kd.int .u8) (w0 := w) w.heap.size rfl (.tmp 31) (.tmp 35) 46 5 (.int .u8 0) 1 rfl Tryd.underlying46 info5 rfl (by decide) (by omega) u3 x3_1 (bt t254 x4_1) [.int .u8 (bt t254 x4_1)] (fun _ => True) (fun _ => False) rfl rfl ?aP (fun _ hk => hk.elim) ?aF ?aO ?aB ?aS ?aL ?_; (case aP => exact rfl); (case aB => exact (by repeat (first | (with_reducible first | exact HB.out | apply qc | apply qb | apply qd) | exact HB.out))); (case aF => exact (fun _ _ => trivial)); (case aO => exact (by (with_reducible repeat (first | apply Kd.zi | apply Kd.ze | apply Kd.zv)); exact HO_3.out)); (case aS => exact (qm (by repeat (first | (with_reducible first | exact HB.out | apply qc | apply qb | apply qd) | exact HB.out)))); (case aL => have := LMc19.out; omega); intro v257 w20 ho hb hg hat; rw [← Ny256.out] at ho; have n0_ := qa.mk (hb); have n1_ := qa.mk (ho); clear HB; clear HO_3; have HB := n0_; have HO258 := n1_; clear n0_ n1_; clear ho hb hg hat))
          go_roundg kj4
          case measure => have := HK1.out; have := HJ4.out; omega
          case rel => exact ⟨(y256), (wrap64 (x4_1 + 1)), (by first | rfl | (simp; done) | (simp [*]; done)), H', ⟨by have := HK1.out; have := HJ4.out; omega⟩, ⟨by (with_reducible repeat (first | apply Kd.zi | apply Kd.ze | apply Kd.zv)); exact HO258.out⟩, ⟨by repeat (first | (with_reducible first | exact HB.out | apply qc | apply qb | apply qd) | exact HB.out)⟩⟩
         ·rw [if_neg c19] at H
          exact absurd H (by simp)
        ·rw [if_neg c17] at H
         exact absurd H (by simp)
       ·rw [if_neg c16] at H
        exact absurd H (by simp)
      ·replace c15 := Bool.eq_false_iff.mpr c15
       subst c15
       have H1 : (qv.l0 kj4 t254 x3_1 (wrap64 (x4_1 + 1))) = some r := by rw [if_neg (show ¬ (false = true) by decide)] at H; exact H
       clear H
       have H := H1
       clear H1
       have H' := qa.mk H
       clear H
       go_wp2
       go_roundg kj4
       case measure => have := HK1.out; have := HJ4.out; omega
       case rel => exact ⟨(x3_1), (wrap64 (x4_1 + 1)), (by first | rfl | (simp; done) | (simp [*]; done)), H', ⟨by have := HK1.out; have := HJ4.out; omega⟩, ⟨by (with_reducible repeat (first | apply Kd.zi | apply Kd.ze | apply Kd.zv)); exact HO_3.out⟩, ⟨by repeat (first | (with_reducible first | exact HB.out | apply qc | apply qb | apply qd) | exact HB.out)⟩⟩
   ·rw [if_neg c4] at H
    have c4b0 : decide (x4_1 < (t254.size : Int)) = false := decide_eq_false c4
    clear c4
    by_cases c21 : (x3_1.length : Int) > 0
    ·rw [if_pos c21] at H
     have c21b0 : decide (0 < (x3_1.length : Int)) = true := decide_eq_true c21
     have c21b1 : decide (0 < x3_1.length) = true := decide_eq_true (by omega)
     clear c21
     obtain ⟨ji22, hji22⟩ : ∃ j_ : Int, (wrap64 ((x3_1.length : Int) - 1)) = j_ := ⟨_, rfl⟩
     replace H : (if 0 ≤ (ji22) then (if (ji22) < (x3_1.length : Int) then (if (rd x3_1 (ji22)) = 32 then (if (ji22) ≤ (x3_1.length : Int) then (some (strOfNums (x3_1.take ((ji22) : Int).toNat))) else (none)) else (some (strOfNums x3_1))) else (none)) else (none)) = some r := by first | (rw [hji22] at H; exact H) | (simp only [hji22] at H ⊢; exact H)
     have hji22w : (IntKind.i64.wrap ((x3_1.length : Int) - 1)) = ji22 := (qy _).trans hji22
     by_cases c23 : 0 ≤ (ji22)
     ·rw [if_pos c23] at H
      have c23b0 : decide (0 ≤ (ji22)) = true := decide_eq_true c23
      clear c23
      by_cases c24 : (ji22) < (x3_1.length : Int)
      ·rw [if_pos c24] at H
       have c24b0 : decide ((ji22) < (x3_1.length : Int)) = true := decide_eq_true c24
       clear c24
       by_cases c25 : (rd x3_1 (ji22)) = 32
       ·rw [if_pos c25] at H
        have c25b0 : ((rd x3_1 (ji22)) == 32) = true := beq_iff_eq.mpr c25
        have c25b1 : ((rd x3_1 (ji22)) != 32) = false := bne_eq_false_iff_eq.mpr c25
        clear c25
        by_cases c26 : (ji22) ≤ (x3_1.length : Int)
        ·rw [if_pos c26] at H
         have c26b0 := eq_true c26
         have c26b1 : decide ((ji22) ≤ (x3_1.length : Int)) = true := decide_eq_true c26
         clear c26
         obtain ⟨y260, hy260⟩ : ∃ y_ : List Int, y_ = (x3_1.take ((ji22) : Int).toNat) := ⟨_, rfl⟩
         replace H : (some (strOfNums y260)) = some r := by first | (rw [hy260]; with_reducible exact H) | (have H2_ := (Option.bind_some _ _).symm.trans H; rw [hy260]; with_reducible exact H2_) | (have H2_ := (Option.bind_some _ _).symm.trans H; with_reducible exact H2_) | with_reducible exact H | (rw [hy260]; exact H) | exact H
         have Ny260 := qa.mk hy260
         clear hy260
         obtain rfl := Option.some.inj H
         obtain ⟨Ao27, co27, eo27⟩ := Kd.ko HO_3.out
         subst eo27
         have p259 : 0 ≤ ((ji22) : Int) := of_decide_eq_true (by first | (with_reducible assumption) | assumption)
         have q259 : (ji22) < (x3_1.length : Int) := of_decide_eq_true (by first | (with_reducible assumption) | assumption)
         obtain ⟨ad259, e259, hx259_0⟩ := Kd.at_int (Kd.kg HO_3.out).2.2 (ji22) p259 q259
         cases e259
         replace p259 := eq_true p259
         replace q259 := eq_true q259
         have q28 : ((ji22) : Int) ≤ ((x3_1.length : Int) : Int) := of_decide_eq_true (by first | (with_reducible assumption) | assumption)
         obtain ⟨i028, hi028, _, hsz28, _⟩ := info_parts info5
         have hcut28 := cut_to (P := Tryd.prog) 46 5 .i64 Tryd.underlying46 hi028 (some ad259) x3_1.length co27 (ji22) (of_decide_eq_true (by first | (with_reducible assumption) | assumption)) q28 (Kd.kg HO_3.out).2.1
         have hr28 := Kd.R_take (m := ((ji22) : Int).toNat) HO_3.out (by omega)
         have hy28 : y260.length = ((ji22) : Int).toNat := (by rw [Ny260.out, List.length_take]; omega)
         rw [← Ny260.out] at hr28
         rw [← hy28] at hr28 hcut28
         clear hy28 hi028 hsz28 HO_3
         have HO262 := qa.mk hr28
         clear hr28
         replace q28 := eq_true q28
         have hcv29 := own_string (P := Tryd.prog) Tryd.underlying46 Tryd.underlying5 Tryd.underlying9 (Kd.own_of_R HO262.out)
         go_wp2
         go_ret
         exact ⟨by first | rfl | (simp [qq, qp] <;> rfl) | (simp only [← hji22]; first | rfl | (simp [qq, qp] <;> rfl)) | (simp [*, qq, qp] <;> rfl), by repeat (first | (with_reducible first | exact HB.out | apply qc | apply qb | apply qd) | exact HB.out)⟩
        ·rw [if_neg c26] at H
         exact absurd H (by simp)
       ·rw [if_neg c25] at H
        have c25b0 : ((rd x3_1 (ji22)) == 32) = false := beq_eq_false_iff_ne.mpr c25
        have c25b1 : ((rd x3_1 (ji22)) != 32) = true := bne_iff_ne.mpr c25
        obtain rfl := Option.some.inj H
        obtain ⟨Ao30, co30, eo30⟩ := Kd.ko HO_3.out
        subst eo30
        have p259 : 0 ≤ ((ji22) : Int) := of_decide_eq_true (by first | (with_reducible assumption) | assumption)
        have q259 : (ji22) < (x3_1.length : Int) := of_decide_eq_true (by first | (with_reducible assumption) | assumption)
        obtain ⟨ad259, e259, hx259_0⟩ := Kd.at_int (Kd.kg HO_3.out).2.2 (ji22) p259 q259
        cases e259
        replace p259 := eq_true p259
        replace q259 := eq_true q259
        have hcv31 := own_string (P := Tryd.prog) Tryd.underlying46 Tryd.underlying5 Tryd.underlying9 (Kd.own_of_R HO_3.out)
        go_wp2
        go_ret
        exact ⟨by first | rfl | (simp [qq, qp] <;> rfl) | (simp only [← hji22]; first | rfl | (simp [qq, qp] <;> rfl)) | (simp [*, qq, qp] <;> rfl), by repeat (first | (with_reducible first | exact HB.out | apply qc | apply qb | apply qd) | exact HB.out)⟩
      ·rw [if_neg c24] at H
       exact absurd H (by simp)
     ·rw [if_neg c23] at H
      exact absurd H (by simp)
    ·rw [if_neg c21] at H
     have c21b0 : decide (0 < (x3_1.length : Int)) = false := decide_eq_false c21
     have c21b1 : decide (0 < x3_1.length) = false := decide_eq_false (by omega)
     clear c21
     obtain rfl := Option.some.inj H
     obtain ⟨Ao32, co32, eo32⟩ := Kd.ko HO_3.out
     subst eo32
     have hcv33 := own_string (P := Tryd.prog) Tryd.underlying46 Tryd.underlying5 Tryd.underlying9 (Kd.own_of_R HO_3.out)
     go_wp2
     go_ret
     exact ⟨by first | rfl | (simp [qq, qp] <;> rfl) | (simp [*, qq, qp] <;> rfl), by repeat (first | (with_reducible first | exact HB.out | apply qc | apply qb | apply qd) | exact HB.out)⟩
end Go.Proofs.YtjhlinifnjoefaaDoor.C
end
