/- Words, walks and plain laws that the claim rests on, gathered. -/
import Derived.OrdersHeld
import Derived.Deep.RegionHeld3
import Derived.Laws.BitsLemmas
import Derived.RowKit
import Derived.Laws.StructEq
import Derived.Below
import Derived.Deep.Draws
import Derived.Deep.AppendLies
import Derived.Maps.AppendAt
import Derived.OwnWalk
import Derived.Laws.BytesArg
import Derived.Laws.MakeOwn
import Derived.Laws.OwnMore
import Derived.Deep.OwnRows
import Derived.Tactics
import Derived.Lib.ConvBytes
import Derived.Laws.Slices
import Derived.WalkKit
import Derived.KernelRfl
import Derived.RowKit3
import Derived.Deep.LoopGhost
import Derived.Deep.QuietTactic
import Derived.BigQuiet
import Derived.WideLaws
import Derived.Deep.DeepCutAuto
import Derived.Deep.CutBlock
import Derived.Laws.Rows
import Derived.Lib.AppendStr
import Derived.ArgAppend
import Derived.Laws.IdiomCopy
import Derived.Shelf.Small.Strs
import Derived.Shelf.Strings.Search1
import Derived.Shelf.Strings.Search2
import Derived.Shelf.Strings.Search3
import Derived.Shelf.Strings.Cut
import Derived.Shelf.Strings.Count
import Derived.Shelf.LaysM
import Derived.Shelf.Strings.Shaped
import Derived.Shelf.Strings.Prefix
import Derived.Shelf.Strings.Split
import Derived.Shelf.Strings.SplitShaped
import Derived.Shelf.Unicode.DecodeSlow
import Derived.Test.YtjhlinifnjoefaaDoorProg
import Derived.WalkSpells
import Derived.Lib.SplitLaws
import Derived.Test.YtjhlinifnjoefaaDoorNO0
import Derived.Test.YtjhlinifnjoefaaDoorNO1
import Derived.Test.YtjhlinifnjoefaaDoorNO2
import Derived.Test.YtjhlinifnjoefaaDoorNO3
import Derived.Test.YtjhlinifnjoefaaDoorNO4
import Derived.Test.YtjhlinifnjoefaaDoorNO5
import Derived.Test.YtjhlinifnjoefaaDoorNO6
import Derived.Test.YtjhlinifnjoefaaDoorNO7
import Derived.Test.YtjhlinifnjoefaaDoorNO8
namespace Go.Proofs.YtjhlinifnjoefaaDoorW.PrintLast
end Go.Proofs.YtjhlinifnjoefaaDoorW.PrintLast
namespace Go.Proofs.YtjhlinifnjoefaaDoorW.PrintMore
end Go.Proofs.YtjhlinifnjoefaaDoorW.PrintMore
namespace Go.Proofs.YtjhlinifnjoefaaDoorW.PrintWords
end Go.Proofs.YtjhlinifnjoefaaDoorW.PrintWords
section
namespace Go.Proofs.YtjhlinifnjoefaaDoor.C
open Go.RowKit Go.Proofs.YtjhlinifnjoefaaDoorW.PrintWords Go.Proofs.YtjhlinifnjoefaaDoorW.PrintLast Go.Proofs.YtjhlinifnjoefaaDoorW.PrintMore
attribute [local go_sem] z8 z7 xf xe zu zv zz zy
set_option linter.unusedVariables false
set_option linter.unusedSimpArgs false
def zd (w0 W : World) (g : Nat) (f0 : List Int) (f1 : Int) : Prop := ∃ A0 c0, W.heap[g]? = some (.cells #[.slice A0 f0.length c0, .int .i64 f1] 51 (0, 0)) ∧ w0.heap.size ≤ g ∧ Kd.C (Kd.int .i64) w0 A0 f0.length f0
theorem zd.grown {w0 W : World} {g : Nat} {f0 : List Int} {f1 : Int} {W1 : World} {row : Option Nat} (h : zd w0 W g f0 f1) (hw : W.grownBy W1 row) (hne : some g ≠ row) : zd w0 W1 g f0 f1 := by
 obtain ⟨A0, c0, hb, hg, hr0⟩ := h
 exact ⟨A0, c0, kc hb hw hne, hg, hr0⟩
theorem zd.kept {w0 W : World} {g : Nat} {f0 : List Int} {f1 : Int} {W1 : World} {S : Nat → Prop} (h : zd w0 W g f0 f1) (hk : Kept W W1 S) (hne : ¬ S g) : zd w0 W1 g f0 f1 := by
 obtain ⟨A0, c0, hb, hg, hr0⟩ := h
 exact ⟨A0, c0, blk_kept hb hk hne, hg, hr0⟩
theorem zd.below {w0 W : World} {g : Nat} {f0 : List Int} {f1 : Int} {W1 : World} (h : zd w0 W g f0 f1) (hw : Below W.heap.size W W1) : zd w0 W1 g f0 f1 := h.grown (grown_of_below hw none) (by simp)
theorem zd.alloc {w0 W : World} {g : Nat} {f0 : List Int} {f1 : Int} (h : zd w0 W g f0 f1) (o : Obj) : zd w0 (W.alloc o) g f0 f1 := h.below (qc (Below.refl _ _) o)
theorem zd.drewN {w0 W : World} {g : Nat} {f0 : List Int} {f1 : Int} (h : zd w0 W g f0 f1) (m : Nat) : zd w0 (W.drewN m) g f0 f1 := h
theorem zd.drew {w0 W : World} {g : Nat} {f0 : List Int} {f1 : Int} (h : zd w0 W g f0 f1) : zd w0 W.drew g f0 f1 := h
theorem zd.at_ {w0 W : World} {g : Nat} {f0 : List Int} {f1 : Int} {w' : World} {m : Nat} (hq : W.drewN m = w') (h : zd w0 W g f0 f1) : zd w0 w' g f0 f1 := by subst hq; exact zd.drewN h m
theorem zd.apart {w0 W : World} {g : Nat} {f0 : List Int} {f1 : Int} {α : Type} {d : Kd α} {e : Nat} {base : Nat} {ok : Nat → Prop} {v : Value} {xs : List α} (h : zd w0 W g f0 f1) (ho : d.R e W base ok v xs) (ht : ∀ q, q ∈ e :: d.E → q ≠ 51) : d.R e W base (fun k => ok k ∧ k ≠ g) v xs := by
 obtain ⟨A0, c0, hb, hg, hr0⟩ := h
 exact Kd.R_types ho hb ht
theorem zd.own_ne {w0 W : World} {g : Nat} {f0 : List Int} {f1 : Int} {α : Type} {d : Kd α} {e : Nat} {base : Nat} {ok : Nat → Prop} {v : Value} {xs : List α} (h : zd w0 W g f0 f1) (ho : d.R e W base ok v xs) (ht : e ≠ 51) : some g ≠ v.ownBlock := by
 obtain ⟨A0, c0, hb, hg, hr0⟩ := h
 exact Kd.R_ne ho hb ht
theorem zd.apartS {w0 W : World} {g : Nat} {f0 : List Int} {f1 : Int} {α : Type} {d : Kd α} {e : Nat} {base : Nat} {ok : Nat → Prop} {v : Value} {xs : List α} (h : zd w0 W g f0 f1) (ho : d.S e W base ok v xs) (ht : ∀ q, q ∈ e :: d.E → q ≠ 51) : d.S e W base (fun k => ok k ∧ k ≠ g) v xs := by
 obtain ⟨A0, c0, hb, hg, hr0⟩ := h
 exact Kd.xv ho hb ht
theorem zd.lt {w0 W : World} {g : Nat} {f0 : List Int} {f1 : Int} (h : zd w0 W g f0 f1) : g < W.heap.size := by
 obtain ⟨A0, c0, hb, hg, hr0⟩ := h
 exact zk hb
theorem zd.ge {w0 W : World} {g : Nat} {f0 : List Int} {f1 : Int} (h : zd w0 W g f0 f1) : w0.heap.size ≤ g := by
 obtain ⟨A0, c0, hb, hg, hr0⟩ := h
 exact hg
theorem zd.far {w0 W : World} {g : Nat} {f0 : List Int} {f1 : Int} {p : Addr} (h : zd w0 W g f0 f1) (hne : g ≠ p.block) (u : Value) : zd w0 (W.setCell p u) g f0 f1 := by
 obtain ⟨A0, c0, hb, hg, hr0⟩ := h
 exact ⟨A0, c0, xb hb hne u, hg, hr0⟩
theorem cellS51_0 {W : World} {g : Nat} {A0 : Option Addr} {c0 : Nat} {f0 : List Int} {f1 : Int} (h : W.heap[g]? = some (.cells #[.slice A0 f0.length c0, .int .i64 f1] 51 (0, 0))) : W.cell? ⟨g, 0, none⟩ = some (.slice A0 f0.length c0) := (qf h 0).trans rfl
theorem cellS51_1 {W : World} {g : Nat} {A0 : Option Addr} {c0 : Nat} {f0 : List Int} {f1 : Int} (h : W.heap[g]? = some (.cells #[.slice A0 f0.length c0, .int .i64 f1] 51 (0, 0))) : W.cell? ⟨g, 1, none⟩ = some (.int .i64 f1) := (qf h 1).trans rfl
theorem zd.set_1 {w0 W : World} {g : Nat} {f0 : List Int} {f1 : Int} (h : zd w0 W g f0 f1) (x : Int) : zd w0 (W.setCell ⟨g, 1, none⟩ (.int .i64 x)) g f0 x := by
 obtain ⟨A0, c0, hb, hg, hr0⟩ := h
 exact ⟨A0, c0, by simpa using blk_set hb 1 (.int .i64 x), hg, hr0⟩
def certpathmade_New.f (l0 : List Int) : Option (List Int × Int) := some (l0, 0)
set_option maxHeartbeats 8000000 in
set_option maxRecDepth 100000 in
theorem certpathmade_New.calls (A0 : Option Addr) (c0 : Nat) (l0 : List Int) (r1 : List Int) (r2 : Int) (w0 w : World) (hB : Below w0.heap.size w0 w) (hr0 : Kd.C (Kd.int .i64) w0 A0 l0.length l0) (hc0 : l0.length ≤ c0) (h : certpathmade_New.f l0 = some (r1, r2)) :
  Calls Tryd.prog 11 #[.slice A0 l0.length c0] w fun e w' => ∃ g_ : Nat, e = .returned (.pointer (some ⟨g_, 0, none⟩)) ∧ zd w0 w' g_ r1 r2 ∧ Below w0.heap.size w0 w' ∧ Below w.heap.size w w' := by
 have hu51 := Tryd.underlying51
 have HR0 := qa.mk hr0
 have HC0 := qa.mk hc0
 clear hr0 hc0
 have HBW := qa.mk (Below.refl w.heap.size w)
 have HW0 := qa.mk hB.size
 have HB := qa.mk hB
 clear hB
 have H : (some (l0, 0)) = some (r1, r2) := h
 clear h
 simp only [Option.some.injEq, Prod.mk.injEq] at H
 obtain ⟨rfl, rfl⟩ := H
 go_enter Tryd.func11, Tryd.ntmps11
 go_wp2_with (first | ((with_reducible refine ze (N := 5) rfl ?_); refine zj ?hg (N := 5) ?hd (cs := #[.slice A0 l0.length c0, .int .i64 0]) (t := 51) ?hr ?_; (case hd => rfl); (case hg => rfl); (case hr => first | (go_simp; done) | (go_simp; rfl)); intro gb285 hg w2 hbox hb; have n0_ := qa.mk (qk HBW.out hb); have n1_ := qa.mk (qk (by repeat (first | (with_reducible first | exact HB.out | apply qc | apply qb | apply qd) | exact HB.out)) hb); have n2_ := qa.mk (hbox); have n3_ := qa.mk ((by rw [hg]; exact (qn (by repeat (first | (with_reducible first | exact HBW.out | apply qc | apply qb | apply qd) | exact HBW.out))) : w.heap.size ≤ gb285)); have n4_ := qa.mk ((Nat.le_trans HW0.out (by rw [hg]; exact (qn (by repeat (first | (with_reducible first | exact HBW.out | apply qc | apply qb | apply qd) | exact HBW.out))) : w.heap.size ≤ gb285) : w0.heap.size ≤ gb285)); clear HBW; clear HB; have HBW := n0_; have HB := n1_; have BK285 := n2_; have GW285 := n3_; have GE285 := n4_; clear n0_ n1_ n2_ n3_ n4_; clear hb hbox hg))
 go_ret
 exact ⟨_, rfl, (show zd w0 _ gb285 l0 0 from ⟨_, _, by (with_reducible repeat (first | refine qh ?_ _ | refine qi ?_ | refine qg ?_ _)); exact BK285.out, GE285.out, HR0.out⟩), by repeat (first | (with_reducible first | exact HB.out | apply qc | apply qb | apply qd | refine qe ?_ GE285.out) | exact HB.out), by repeat (first | (with_reducible first | exact HBW.out | apply qc | apply qb | apply qd | refine qe ?_ GW285.out) | exact HBW.out)⟩
def xa.f (s0_0 : List Int) (s0_1 : Int) (a1 : Int) : Option (Int × Int) := if s0_1 ≥ (s0_0.length : Int) then (some (0, s0_1)) else (if 0 ≤ (wrap64 ((wrap64 (s0_1 + 1)) - 1)) then (if (wrap64 ((wrap64 (s0_1 + 1)) - 1)) < (s0_0.length : Int) then (if a1 = 0 then (none) else (some (Int.tmod (wrap64 ((Int.tmod (rd s0_0 (wrap64 ((wrap64 (s0_1 + 1)) - 1))) a1) + a1)) a1, wrap64 (s0_1 + 1)))) else (none)) else (none))
set_option maxHeartbeats 8000000 in
set_option maxRecDepth 100000 in
theorem xa.calls (g : Nat) (s0_0 : List Int) (s0_1 : Int) (a1 : Int) (r1 : Int) (r2 : Int) (w0 w : World) (hI : zd w0 w g s0_0 s0_1) (hB : Below w0.heap.size w0 w) (h : xa.f s0_0 s0_1 a1 = some (r1, r2)) :
  Calls Tryd.prog 14 #[.pointer (some ⟨g, 0, none⟩), .int .i64 a1] w fun e w' => e = .returned (.int .i64 r1) ∧ zd w0 w' g s0_0 r2 ∧ Below w0.heap.size w0 w' ∧ KeepBut w w' g none := by
 have HI0 := qa.mk hI
 have HK := qa.mk (KeepBut.refl w g none)
 have HL := qa.mk hB.size
 clear hI
 have HW0 := qa.mk hB.size
 have HB := qa.mk hB
 clear hB
 have H : (if s0_1 ≥ (s0_0.length : Int) then (some (0, s0_1)) else (if 0 ≤ (wrap64 ((wrap64 (s0_1 + 1)) - 1)) then (if (wrap64 ((wrap64 (s0_1 + 1)) - 1)) < (s0_0.length : Int) then (if a1 = 0 then (none) else (some (Int.tmod (wrap64 ((Int.tmod (rd s0_0 (wrap64 ((wrap64 (s0_1 + 1)) - 1))) a1) + a1)) a1, wrap64 (s0_1 + 1)))) else (none)) else (none))) = some (r1, r2) := h
 clear h
 by_cases c3 : s0_1 ≥ (s0_0.length : Int)
 ·rw [if_pos c3] at H
  have c3b0 : decide ((s0_0.length : Int) ≤ s0_1) = true := decide_eq_true c3
  clear c3
  simp only [Option.some.injEq, Prod.mk.injEq] at H
  obtain ⟨rfl, rfl⟩ := H
  obtain ⟨ASz4_0, cSz4_0, HGz4, hgz4, HSz4_0⟩ := HI0.out
  have hcz4_0 := cellS51_0 HGz4
  have hcz4_1 := cellS51_1 HGz4
  have hfz4_1 := ql HGz4 1
  clear HGz4 hgz4
  go_enter Tryd.func14, Tryd.ntmps14
  go_wp2
  repeat (go_quiet (fail); try go_wp2)
  go_ret
  exact ⟨by first | rfl | (simp [qr, qq] <;> rfl) | (simp [*, qr, qq] <;> rfl), by repeat (first | (with_reducible first | exact HI0.out | apply zd.alloc | apply zd.drewN | apply zd.drew | apply zd.set_1) | exact HI0.out), by repeat (first | (with_reducible first | exact HB.out | apply qc | apply qb | apply qd | refine qe ?_ (zd.ge HI0.out)) | exact HB.out), by repeat (first | (with_reducible first | exact HK.out | apply KeepBut.set_ | apply kr | apply keep_drew | apply kt) | exact HK.out)⟩
 ·rw [if_neg c3] at H
  have c3b0 : decide ((s0_0.length : Int) ≤ s0_1) = false := decide_eq_false c3
  clear c3
  obtain ⟨ji5, hji5⟩ : ∃ j_ : Int, (wrap64 ((wrap64 (s0_1 + 1)) - 1)) = j_ := ⟨_, rfl⟩
  replace H : (if 0 ≤ (ji5) then (if (ji5) < (s0_0.length : Int) then (if a1 = 0 then (none) else (some (Int.tmod (wrap64 ((Int.tmod (rd s0_0 (ji5)) a1) + a1)) a1, wrap64 (s0_1 + 1)))) else (none)) else (none)) = some (r1, r2) := by first | (rw [hji5] at H; exact H) | (simp only [hji5] at H ⊢; exact H)
  have hji5w : (IntKind.i64.wrap ((wrap64 (s0_1 + 1)) - 1)) = ji5 := (qt _).trans hji5
  by_cases c6 : 0 ≤ (ji5)
  ·rw [if_pos c6] at H
   have c6b0 : decide (0 ≤ (ji5)) = true := decide_eq_true c6
   clear c6
   by_cases c7 : (ji5) < (s0_0.length : Int)
   ·rw [if_pos c7] at H
    have c7b0 : decide ((ji5) < (s0_0.length : Int)) = true := decide_eq_true c7
    clear c7
    by_cases c8 : a1 = 0
    ·rw [if_pos c8] at H
     exact absurd H (by simp)
    ·rw [if_neg c8] at H
     have c8b0 : (a1 == 0) = false := beq_eq_false_iff_ne.mpr c8
     have c8b1 : (a1 != 0) = true := bne_iff_ne.mpr c8
     simp only [Option.some.injEq, Prod.mk.injEq] at H
     obtain ⟨rfl, rfl⟩ := H
     obtain ⟨ASz9_0, cSz9_0, HGz9, hgz9, HSz9_0⟩ := HI0.out
     have hcz9_0 := cellS51_0 HGz9
     have hcz9_1 := cellS51_1 HGz9
     have hfz9_1 := ql HGz9 1
     clear HGz9 hgz9
     have p286 : 0 ≤ ((ji5) : Int) := of_decide_eq_true (by first | (with_reducible assumption) | assumption)
     have q286 : (ji5) < (s0_0.length : Int) := of_decide_eq_true (by first | (with_reducible assumption) | assumption)
     obtain ⟨ad286, e286, hx286_0⟩ := Kd.at_int HSz9_0 (ji5) p286 q286
     cases e286
     have hn286_0 : ad286.block ≠ g := Nat.ne_of_lt (Nat.lt_of_lt_of_le (by have := World.block_lt_of_cell? _ _ hx286_0; first | rwa [add_block] at this | exact this) (zd.ge HI0.out))
     replace hx286_0 := pw_cell_below HB.out hx286_0
     replace hx286_0 := (cell_far (p := ⟨g, 1, none⟩) (by first | (rw [add_block]; exact hn286_0) | (show (Addr.add _ _).block ≠ _; rw [add_block]; exact hn286_0) | exact hn286_0) (.int .i64 (wrap64 (s0_1 + 1)))).trans hx286_0
     (try have hy286_0 := fun (n_ : Nat) => (show (((w.drewN n_).setCell ⟨g, 1, none⟩ (.int .i64 (wrap64 (s0_1 + 1))))).cell? _ = some _ from hx286_0))
     clear hn286_0
     replace p286 := eq_true p286
     replace q286 := eq_true q286
     go_enter Tryd.func14, Tryd.ntmps14
     go_wp2
     repeat (go_quiet (fail); try go_wp2)
     go_ret
     exact ⟨by first | rfl | (simp [qr, qq] <;> rfl) | (simp only [← hji5]; first | rfl | (simp [qr, qq] <;> rfl)) | (simp [*, qr, qq] <;> rfl), by repeat (first | (with_reducible first | exact HI0.out | apply zd.alloc | apply zd.drewN | apply zd.drew | apply zd.set_1) | exact HI0.out), by repeat (first | (with_reducible first | exact HB.out | apply qc | apply qb | apply qd | refine qe ?_ (zd.ge HI0.out)) | exact HB.out), by repeat (first | (with_reducible first | exact HK.out | apply KeepBut.set_ | apply kr | apply keep_drew | apply kt) | exact HK.out)⟩
   ·rw [if_neg c7] at H
    exact absurd H (by simp)
  ·rw [if_neg c6] at H
   exact absurd H (by simp)
def kp.f (s0_0 : List Int) (s0_1 : Int) : Option (ByteArray × Int × ByteArray × Int) := (some (([(⟨(⟨#[50, 46, 53, 46, 52, 46, 51]⟩ : ByteArray), 12, (⟨#[65, 110, 110]⟩ : ByteArray)⟩ : S26), (⟨(⟨#[50, 46, 53, 46, 52, 46, 51]⟩ : ByteArray), 19, (⟨#[32, 97, 110, 110]⟩ : ByteArray)⟩ : S26), (⟨(⟨#[50, 46, 53, 46, 52, 46, 51]⟩ : ByteArray), 12, (⟨#[103, 114, 195, 182, 195, 159, 101]⟩ : ByteArray)⟩ : S26), (⟨(⟨#[50, 46, 53, 46, 52, 46, 54]⟩ : ByteArray), 19, (⟨#[85, 83]⟩ : ByteArray)⟩ : S26), (⟨(⟨#[50, 46, 53, 46, 52, 46, 49, 48]⟩ : ByteArray), 19, (⟨#[69, 120, 97, 109, 112, 108, 101, 32, 32, 67, 111, 114, 112]⟩ : ByteArray)⟩ : S26), (⟨(⟨#[50, 46, 53, 46, 52, 46, 49, 48]⟩ : ByteArray), 12, (⟨#[101, 120, 97, 109, 112, 108, 101, 32, 99, 111, 114, 112]⟩ : ByteArray)⟩ : S26), (⟨(⟨#[50, 46, 53, 46, 52, 46, 49, 49]⟩ : ByteArray), 22, (⟨#[97, 44, 98, 43, 99, 61, 100, 92, 101]⟩ : ByteArray)⟩ : S26), (⟨(⟨#[48, 46, 57, 46, 50, 51, 52, 50, 46, 49, 57, 50, 48, 48, 51, 48, 48, 46, 49, 48, 48, 46, 49, 46, 50, 53]⟩ : ByteArray), 22, (⟨#[111, 114, 103]⟩ : ByteArray)⟩ : S26), (⟨(⟨#[49, 46, 50, 46, 56, 52, 48, 46, 49, 49, 51, 53, 52, 57, 46, 49, 46, 57, 46, 49]⟩ : ByteArray), 22, (⟨#[97, 110, 110, 64, 101, 120, 97, 109, 112, 108, 101, 46, 111, 114, 103]⟩ : ByteArray)⟩ : S26), (⟨(⟨#[49, 46, 50, 46, 56, 52, 48, 46, 49, 49, 51, 53, 52, 57, 46, 49, 46, 57, 46, 49]⟩ : ByteArray), 22, (⟨#[110, 111, 32, 97, 100, 100, 114, 101, 115, 115]⟩ : ByteArray)⟩ : S26), (⟨(⟨#[50, 46, 53, 46, 52, 46, 57, 57]⟩ : ByteArray), 19, (⟨#[120]⟩ : ByteArray)⟩ : S26), (⟨(⟨#[50, 46, 53, 46, 52, 46, 55]⟩ : ByteArray), 12, (⟨#[76]⟩ : ByteArray)⟩ : S26)] : List (S26)) : List (S26))).bind fun y288 => ((xa.f s0_0 s0_1 12).bind fun bt291 => (if 0 ≤ bt291.1 then (if bt291.1 < (y288.length : Int) then (some ((qp y288 bt291.1).f0, (qp y288 bt291.1).f1, (qp y288 bt291.1).f2, bt291.2)) else (none)) else (none)))
set_option maxHeartbeats 8000000 in
set_option maxRecDepth 100000 in
theorem kp.calls (g : Nat) (s0_0 : List Int) (s0_1 : Int) (r1 : ByteArray) (r2 : Int) (r3 : ByteArray) (r4 : Int) (w0 w : World) (hI : zd w0 w g s0_0 s0_1) (hB : Below w0.heap.size w0 w) (h : kp.f s0_0 s0_1 = some (r1, r2, r3, r4)) :
  Calls Tryd.prog 22 #[.pointer (some ⟨g, 0, none⟩)] w fun e w' => e = .returned (.agg #[.string r1, .int .i64 r2, .string r3]) ∧ zd w0 w' g s0_0 r4 ∧ Below w0.heap.size w0 w' ∧ KeepBut w w' g none := by
 have hu26 := Tryd.underlying26
 have HI0 := qa.mk hI
 have HK := qa.mk (KeepBut.refl w g none)
 have HL := qa.mk hB.size
 clear hI
 have HW0 := qa.mk hB.size
 have HB := qa.mk hB
 clear hB
 have H : ((some (([(⟨(⟨#[50, 46, 53, 46, 52, 46, 51]⟩ : ByteArray), 12, (⟨#[65, 110, 110]⟩ : ByteArray)⟩ : S26), (⟨(⟨#[50, 46, 53, 46, 52, 46, 51]⟩ : ByteArray), 19, (⟨#[32, 97, 110, 110]⟩ : ByteArray)⟩ : S26), (⟨(⟨#[50, 46, 53, 46, 52, 46, 51]⟩ : ByteArray), 12, (⟨#[103, 114, 195, 182, 195, 159, 101]⟩ : ByteArray)⟩ : S26), (⟨(⟨#[50, 46, 53, 46, 52, 46, 54]⟩ : ByteArray), 19, (⟨#[85, 83]⟩ : ByteArray)⟩ : S26), (⟨(⟨#[50, 46, 53, 46, 52, 46, 49, 48]⟩ : ByteArray), 19, (⟨#[69, 120, 97, 109, 112, 108, 101, 32, 32, 67, 111, 114, 112]⟩ : ByteArray)⟩ : S26), (⟨(⟨#[50, 46, 53, 46, 52, 46, 49, 48]⟩ : ByteArray), 12, (⟨#[101, 120, 97, 109, 112, 108, 101, 32, 99, 111, 114, 112]⟩ : ByteArray)⟩ : S26), (⟨(⟨#[50, 46, 53, 46, 52, 46, 49, 49]⟩ : ByteArray), 22, (⟨#[97, 44, 98, 43, 99, 61, 100, 92, 101]⟩ : ByteArray)⟩ : S26), (⟨(⟨#[48, 46, 57, 46, 50, 51, 52, 50, 46, 49, 57, 50, 48, 48, 51, 48, 48, 46, 49, 48, 48, 46, 49, 46, 50, 53]⟩ : ByteArray), 22, (⟨#[111, 114, 103]⟩ : ByteArray)⟩ : S26), (⟨(⟨#[49, 46, 50, 46, 56, 52, 48, 46, 49, 49, 51, 53, 52, 57, 46, 49, 46, 57, 46, 49]⟩ : ByteArray), 22, (⟨#[97, 110, 110, 64, 101, 120, 97, 109, 112, 108, 101, 46, 111, 114, 103]⟩ : ByteArray)⟩ : S26), (⟨(⟨#[49, 46, 50, 46, 56, 52, 48, 46, 49, 49, 51, 53, 52, 57, 46, 49, 46, 57, 46, 49]⟩ : ByteArray), 22, (⟨#[110, 111, 32, 97, 100, 100, 114, 101, 115, 115]⟩ : ByteArray)⟩ : S26), (⟨(⟨#[50, 46, 53, 46, 52, 46, 57, 57]⟩ : ByteArray), 19, (⟨#[120]⟩ : ByteArray)⟩ : S26), (⟨(⟨#[50, 46, 53, 46, 52, 46, 55]⟩ : ByteArray), 12, (⟨#[76]⟩ : ByteArray)⟩ : S26)] : List (S26)) : List (S26))).bind fun y288 => ((xa.f s0_0 s0_1 12).bind fun bt291 => (if 0 ≤ bt291.1 then (if bt291.1 < (y288.length : Int) then (some ((qp y288 bt291.1).f0, (qp y288 bt291.1).f1, (qp y288 bt291.1).f2, bt291.2)) else (none)) else (none)))) = some (r1, r2, r3, r4) := h
 clear h
 obtain ⟨y288, hy288⟩ : ∃ y_ : List (S26), y_ = (([(⟨(⟨#[50, 46, 53, 46, 52, 46, 51]⟩ : ByteArray), 12, (⟨#[65, 110, 110]⟩ : ByteArray)⟩ : S26), (⟨(⟨#[50, 46, 53, 46, 52, 46, 51]⟩ : ByteArray), 19, (⟨#[32, 97, 110, 110]⟩ : ByteArray)⟩ : S26), (⟨(⟨#[50, 46, 53, 46, 52, 46, 51]⟩ : ByteArray), 12, (⟨#[103, 114, 195, 182, 195, 159, 101]⟩ : ByteArray)⟩ : S26), (⟨(⟨#[50, 46, 53, 46, 52, 46, 54]⟩ : ByteArray), 19, (⟨#[85, 83]⟩ : ByteArray)⟩ : S26), (⟨(⟨#[50, 46, 53, 46, 52, 46, 49, 48]⟩ : ByteArray), 19, (⟨#[69, 120, 97, 109, 112, 108, 101, 32, 32, 67, 111, 114, 112]⟩ : ByteArray)⟩ : S26), (⟨(⟨#[50, 46, 53, 46, 52, 46, 49, 48]⟩ : ByteArray), 12, (⟨#[101, 120, 97, 109, 112, 108, 101, 32, 99, 111, 114, 112]⟩ : ByteArray)⟩ : S26), (⟨(⟨#[50, 46, 53, 46, 52, 46, 49, 49]⟩ : ByteArray), 22, (⟨#[97, 44, 98, 43, 99, 61, 100, 92, 101]⟩ : ByteArray)⟩ : S26), (⟨(⟨#[48, 46, 57, 46, 50, 51, 52, 50, 46, 49, 57, 50, 48, 48, 51, 48, 48, 46, 49, 48, 48, 46, 49, 46, 50, 53]⟩ : ByteArray), 22, (⟨#[111, 114, 103]⟩ : ByteArray)⟩ : S26), (⟨(⟨#[49, 46, 50, 46, 56, 52, 48, 46, 49, 49, 51, 53, 52, 57, 46, 49, 46, 57, 46, 49]⟩ : ByteArray), 22, (⟨#[97, 110, 110, 64, 101, 120, 97, 109, 112, 108, 101, 46, 111, 114, 103]⟩ : ByteArray)⟩ : S26), (⟨(⟨#[49, 46, 50, 46, 56, 52, 48, 46, 49, 49, 51, 53, 52, 57, 46, 49, 46, 57, 46, 49]⟩ : ByteArray), 22, (⟨#[110, 111, 32, 97, 100, 100, 114, 101, 115, 115]⟩ : ByteArray)⟩ : S26), (⟨(⟨#[50, 46, 53, 46, 52, 46, 57, 57]⟩ : ByteArray), 19, (⟨#[120]⟩ : ByteArray)⟩ : S26), (⟨(⟨#[50, 46, 53, 46, 52, 46, 55]⟩ : ByteArray), 12, (⟨#[76]⟩ : ByteArray)⟩ : S26)] : List (S26))) := ⟨_, rfl⟩
 replace H : ((xa.f s0_0 s0_1 12).bind fun bt291 => (if 0 ≤ bt291.1 then (if bt291.1 < (y288.length : Int) then (some ((qp y288 bt291.1).f0, (qp y288 bt291.1).f1, (qp y288 bt291.1).f2, bt291.2)) else (none)) else (none))) = some (r1, r2, r3, r4) := by first | (rw [hy288]; with_reducible exact H) | (have H2_ := (Option.bind_some _ _).symm.trans H; rw [hy288]; with_reducible exact H2_) | (have H2_ := (Option.bind_some _ _).symm.trans H; with_reducible exact H2_) | with_reducible exact H | (rw [hy288]; exact H) | exact H
 have Ny288 := qa.mk hy288
 clear hy288
 replace H := Option.bind_eq_some_iff.mp H
 obtain ⟨⟨t291, t292⟩, A20, H⟩ := H
 replace H : (if 0 ≤ t291 then (if t291 < (y288.length : Int) then (some ((qp y288 t291).f0, (qp y288 t291).f1, (qp y288 t291).f2, t292)) else (none)) else (none)) = some (r1, r2, r3, r4) := H
 have A2 := qa.mk A20
 clear A20
 by_cases c3 : 0 ≤ t291
 ·rw [if_pos c3] at H
  have c3b0 : decide (0 ≤ t291) = true := decide_eq_true c3
  clear c3
  by_cases c4 : t291 < (y288.length : Int)
  ·rw [if_pos c4] at H
   have c4b0 : decide (t291 < (y288.length : Int)) = true := decide_eq_true c4
   clear c4
   simp only [Option.some.injEq, Prod.mk.injEq] at H
   obtain ⟨rfl, rfl, rfl, rfl⟩ := H
   go_enter Tryd.func22, Tryd.ntmps22
   go_wp2_with (first | ((with_reducible refine ze (N := 2) rfl ?_); refine zj ?hg (N := 2) ?hd (cs := #[.string (⟨#[]⟩ : ByteArray), .int .i64 0, .string (⟨#[]⟩ : ByteArray)]) (t := 26) ?hr ?_; (case hd => rfl); (case hg => rfl); (case hr => first | (go_simp; done) | (go_simp; rfl)); intro gb287 hg w5 hbox hb; have n0_ := qa.mk (zd.below (by repeat (first | (with_reducible first | exact HI0.out | apply zd.alloc | apply zd.drewN | apply zd.drew | apply zd.set_1) | exact HI0.out)) hb); have n1_ := qa.mk (KeepBut.trans (by repeat (first | (with_reducible first | exact HK.out | apply KeepBut.set_ | apply kr | apply keep_drew | apply kt) | exact HK.out)) (KeepBut.of_below hb g none) (.inl rfl)); have n2_ := qa.mk (qk (by repeat (first | (with_reducible first | exact HB.out | apply qc | apply qb | apply qd | refine qe ?_ (zd.ge HI0.out)) | exact HB.out)) hb); have n3_ := qa.mk (hbox); have n4_ := qa.mk ((by rw [hg]; exact (keep_size (w := w) (g := g) (row := none) (by repeat (first | (with_reducible first | exact HK.out | apply KeepBut.set_ | apply kr | apply keep_drew | apply kt) | exact HK.out))) : w.heap.size ≤ gb287)); have n5_ := qa.mk ((Nat.le_trans HW0.out (by rw [hg]; exact (keep_size (w := w) (g := g) (row := none) (by repeat (first | (with_reducible first | exact HK.out | apply KeepBut.set_ | apply kr | apply keep_drew | apply kt) | exact HK.out))) : w.heap.size ≤ gb287) : w0.heap.size ≤ gb287)); have n6_ := qa.mk ((by rw [hg]; exact Nat.ne_of_lt (zd.lt (show zd w0 _ g s0_0 s0_1 from by repeat (first | (with_reducible first | exact HI0.out | apply zd.alloc | apply zd.drewN | apply zd.drew | apply zd.set_1) | exact HI0.out))) : g ≠ gb287)); have n7_ := qa.mk ((by rw [hg]; exact Nat.ne_of_gt (zd.lt (show zd w0 _ g s0_0 s0_1 from by repeat (first | (with_reducible first | exact HI0.out | apply zd.alloc | apply zd.drewN | apply zd.drew | apply zd.set_1) | exact HI0.out))) : gb287 ≠ g)); clear HI0; clear HK; clear HB; have HI0 := n0_; have HK := n1_; have HB := n2_; have BK287 := n3_; have GW287 := n4_; have GE287 := n5_; have NB0_287 := n6_; have NB287_0 := n7_; clear n0_ n1_ n2_ n3_ n4_ n5_ n6_ n7_; clear hb hbox hg) | ((with_reducible refine ze (N := 15) rfl ?_); refine Kd.R_lit k26 _ 26 ?hg (N := 15) ?hd (xs := ([(⟨(⟨#[50, 46, 53, 46, 52, 46, 51]⟩ : ByteArray), 12, (⟨#[65, 110, 110]⟩ : ByteArray)⟩ : S26), (⟨(⟨#[50, 46, 53, 46, 52, 46, 51]⟩ : ByteArray), 19, (⟨#[32, 97, 110, 110]⟩ : ByteArray)⟩ : S26), (⟨(⟨#[50, 46, 53, 46, 52, 46, 51]⟩ : ByteArray), 12, (⟨#[103, 114, 195, 182, 195, 159, 101]⟩ : ByteArray)⟩ : S26), (⟨(⟨#[50, 46, 53, 46, 52, 46, 54]⟩ : ByteArray), 19, (⟨#[85, 83]⟩ : ByteArray)⟩ : S26), (⟨(⟨#[50, 46, 53, 46, 52, 46, 49, 48]⟩ : ByteArray), 19, (⟨#[69, 120, 97, 109, 112, 108, 101, 32, 32, 67, 111, 114, 112]⟩ : ByteArray)⟩ : S26), (⟨(⟨#[50, 46, 53, 46, 52, 46, 49, 48]⟩ : ByteArray), 12, (⟨#[101, 120, 97, 109, 112, 108, 101, 32, 99, 111, 114, 112]⟩ : ByteArray)⟩ : S26), (⟨(⟨#[50, 46, 53, 46, 52, 46, 49, 49]⟩ : ByteArray), 22, (⟨#[97, 44, 98, 43, 99, 61, 100, 92, 101]⟩ : ByteArray)⟩ : S26), (⟨(⟨#[48, 46, 57, 46, 50, 51, 52, 50, 46, 49, 57, 50, 48, 48, 51, 48, 48, 46, 49, 48, 48, 46, 49, 46, 50, 53]⟩ : ByteArray), 22, (⟨#[111, 114, 103]⟩ : ByteArray)⟩ : S26), (⟨(⟨#[49, 46, 50, 46, 56, 52, 48, 46, 49, 49, 51, 53, 52, 57, 46, 49, 46, 57, 46, 49]⟩ : ByteArray), 22, (⟨#[97, 110, 110, 64, 101, 120, 97, 109, 112, 108, 101, 46, 111, 114, 103]⟩ : ByteArray)⟩ : S26), (⟨(⟨#[49, 46, 50, 46, 56, 52, 48, 46, 49, 49, 51, 53, 52, 57, 46, 49, 46, 57, 46, 49]⟩ : ByteArray), 22, (⟨#[110, 111, 32, 97, 100, 100, 114, 101, 115, 115]⟩ : ByteArray)⟩ : S26), (⟨(⟨#[50, 46, 53, 46, 52, 46, 57, 57]⟩ : ByteArray), 19, (⟨#[120]⟩ : ByteArray)⟩ : S26), (⟨(⟨#[50, 46, 53, 46, 52, 46, 55]⟩ : ByteArray), 12, (⟨#[76]⟩ : ByteArray)⟩ : S26)] : List (S26))) (inner := [.string (⟨#[50, 46, 53, 46, 52, 46, 51]⟩ : ByteArray), .int .i64 12, .string (⟨#[65, 110, 110]⟩ : ByteArray), .string (⟨#[50, 46, 53, 46, 52, 46, 51]⟩ : ByteArray), .int .i64 19, .string (⟨#[32, 97, 110, 110]⟩ : ByteArray), .string (⟨#[50, 46, 53, 46, 52, 46, 51]⟩ : ByteArray), .int .i64 12, .string (⟨#[103, 114, 195, 182, 195, 159, 101]⟩ : ByteArray), .string (⟨#[50, 46, 53, 46, 52, 46, 54]⟩ : ByteArray), .int .i64 19, .string (⟨#[85, 83]⟩ : ByteArray), .string (⟨#[50, 46, 53, 46, 52, 46, 49, 48]⟩ : ByteArray), .int .i64 19, .string (⟨#[69, 120, 97, 109, 112, 108, 101, 32, 32, 67, 111, 114, 112]⟩ : ByteArray), .string (⟨#[50, 46, 53, 46, 52, 46, 49, 48]⟩ : ByteArray), .int .i64 12, .string (⟨#[101, 120, 97, 109, 112, 108, 101, 32, 99, 111, 114, 112]⟩ : ByteArray), .string (⟨#[50, 46, 53, 46, 52, 46, 49, 49]⟩ : ByteArray), .int .i64 22, .string (⟨#[97, 44, 98, 43, 99, 61, 100, 92, 101]⟩ : ByteArray), .string (⟨#[48, 46, 57, 46, 50, 51, 52, 50, 46, 49, 57, 50, 48, 48, 51, 48, 48, 46, 49, 48, 48, 46, 49, 46, 50, 53]⟩ : ByteArray), .int .i64 22, .string (⟨#[111, 114, 103]⟩ : ByteArray), .string (⟨#[49, 46, 50, 46, 56, 52, 48, 46, 49, 49, 51, 53, 52, 57, 46, 49, 46, 57, 46, 49]⟩ : ByteArray), .int .i64 22, .string (⟨#[97, 110, 110, 64, 101, 120, 97, 109, 112, 108, 101, 46, 111, 114, 103]⟩ : ByteArray), .string (⟨#[49, 46, 50, 46, 56, 52, 48, 46, 49, 49, 51, 53, 52, 57, 46, 49, 46, 57, 46, 49]⟩ : ByteArray), .int .i64 22, .string (⟨#[110, 111, 32, 97, 100, 100, 114, 101, 115, 115]⟩ : ByteArray), .string (⟨#[50, 46, 53, 46, 52, 46, 57, 57]⟩ : ByteArray), .int .i64 19, .string (⟨#[120]⟩ : ByteArray), .string (⟨#[50, 46, 53, 46, 52, 46, 55]⟩ : ByteArray), .int .i64 12, .string (⟨#[76]⟩ : ByteArray)]) (ok := fun _ => True) (okp := fun _ => True) ?hr ?hp (fun _ hk => hk) trivial (Below.refl _ _) (Nat.le_refl _) (by simp) ?_; (case hd => rfl); (case hg => rfl); (case hr => first | (go_simp; done) | (go_simp; rfl)); (case hp => exact (Reps.c3 (show Kd.M k26 _ _ _ (⟨(⟨#[50, 46, 53, 46, 52, 46, 51]⟩ : ByteArray), 12, (⟨#[65, 110, 110]⟩ : ByteArray)⟩ : S26) [.string (⟨#[50, 46, 53, 46, 52, 46, 51]⟩ : ByteArray), .int .i64 12, .string (⟨#[65, 110, 110]⟩ : ByteArray)] from (xy _ _ _ (⟨(⟨#[50, 46, 53, 46, 52, 46, 51]⟩ : ByteArray), 12, (⟨#[65, 110, 110]⟩ : ByteArray)⟩ : S26) )) (Reps.c3 (show Kd.M k26 _ _ _ (⟨(⟨#[50, 46, 53, 46, 52, 46, 51]⟩ : ByteArray), 19, (⟨#[32, 97, 110, 110]⟩ : ByteArray)⟩ : S26) [.string (⟨#[50, 46, 53, 46, 52, 46, 51]⟩ : ByteArray), .int .i64 19, .string (⟨#[32, 97, 110, 110]⟩ : ByteArray)] from (xy _ _ _ (⟨(⟨#[50, 46, 53, 46, 52, 46, 51]⟩ : ByteArray), 19, (⟨#[32, 97, 110, 110]⟩ : ByteArray)⟩ : S26) )) (Reps.c3 (show Kd.M k26 _ _ _ (⟨(⟨#[50, 46, 53, 46, 52, 46, 51]⟩ : ByteArray), 12, (⟨#[103, 114, 195, 182, 195, 159, 101]⟩ : ByteArray)⟩ : S26) [.string (⟨#[50, 46, 53, 46, 52, 46, 51]⟩ : ByteArray), .int .i64 12, .string (⟨#[103, 114, 195, 182, 195, 159, 101]⟩ : ByteArray)] from (xy _ _ _ (⟨(⟨#[50, 46, 53, 46, 52, 46, 51]⟩ : ByteArray), 12, (⟨#[103, 114, 195, 182, 195, 159, 101]⟩ : ByteArray)⟩ : S26) )) (Reps.c3 (show Kd.M k26 _ _ _ (⟨(⟨#[50, 46, 53, 46, 52, 46, 54]⟩ : ByteArray), 19, (⟨#[85, 83]⟩ : ByteArray)⟩ : S26) [.string (⟨#[50, 46, 53, 46, 52, 46, 54]⟩ : ByteArray), .int .i64 19, .string (⟨#[85, 83]⟩ : ByteArray)] from (xy _ _ _ (⟨(⟨#[50, 46, 53, 46, 52, 46, 54]⟩ : ByteArray), 19, (⟨#[85, 83]⟩ : ByteArray)⟩ : S26) )) (Reps.c3 (show Kd.M k26 _ _ _ (⟨(⟨#[50, 46, 53, 46, 52, 46, 49, 48]⟩ : ByteArray), 19, (⟨#[69, 120, 97, 109, 112, 108, 101, 32, 32, 67, 111, 114, 112]⟩ : ByteArray)⟩ : S26) [.string (⟨#[50, 46, 53, 46, 52, 46, 49, 48]⟩ : ByteArray), .int .i64 19, .string (⟨#[69, 120, 97, 109, 112, 108, 101, 32, 32, 67, 111, 114, 112]⟩ : ByteArray)] from (xy _ _ _ (⟨(⟨#[50, 46, 53, 46, 52, 46, 49, 48]⟩ : ByteArray), 19, (⟨#[69, 120, 97, 109, 112, 108, 101, 32, 32, 67, 111, 114, 112]⟩ : ByteArray)⟩ : S26) )) (Reps.c3 (show Kd.M k26 _ _ _ (⟨(⟨#[50, 46, 53, 46, 52, 46, 49, 48]⟩ : ByteArray), 12, (⟨#[101, 120, 97, 109, 112, 108, 101, 32, 99, 111, 114, 112]⟩ : ByteArray)⟩ : S26) [.string (⟨#[50, 46, 53, 46, 52, 46, 49, 48]⟩ : ByteArray), .int .i64 12, .string (⟨#[101, 120, 97, 109, 112, 108, 101, 32, 99, 111, 114, 112]⟩ : ByteArray)] from (xy _ _ _ (⟨(⟨#[50, 46, 53, 46, 52, 46, 49, 48]⟩ : ByteArray), 12, (⟨#[101, 120, 97, 109, 112, 108, 101, 32, 99, 111, 114, 112]⟩ : ByteArray)⟩ : S26) )) (Reps.c3 (show Kd.M k26 _ _ _ (⟨(⟨#[50, 46, 53, 46, 52, 46, 49, 49]⟩ : ByteArray), 22, (⟨#[97, 44, 98, 43, 99, 61, 100, 92, 101]⟩ : ByteArray)⟩ : S26) [.string (⟨#[50, 46, 53, 46, 52, 46, 49, 49]⟩ : ByteArray), .int .i64 22, .string (⟨#[97, 44, 98, 43, 99, 61, 100, 92, 101]⟩ : ByteArray)] from (xy _ _ _ (⟨(⟨#[50, 46, 53, 46, 52, 46, 49, 49]⟩ : ByteArray), 22, (⟨#[97, 44, 98, 43, 99, 61, 100, 92, 101]⟩ : ByteArray)⟩ : S26) )) (Reps.c3 (show Kd.M k26 _ _ _ (⟨(⟨#[48, 46, 57, 46, 50, 51, 52, 50, 46, 49, 57, 50, 48, 48, 51, 48, 48, 46, 49, 48, 48, 46, 49, 46, 50, 53]⟩ : ByteArray), 22, (⟨#[111, 114, 103]⟩ : ByteArray)⟩ : S26) [.string (⟨#[48, 46, 57, 46, 50, 51, 52, 50, 46, 49, 57, 50, 48, 48, 51, 48, 48, 46, 49, 48, 48, 46, 49, 46, 50, 53]⟩ : ByteArray), .int .i64 22, .string (⟨#[111, 114, 103]⟩ : ByteArray)] from (xy _ _ _ (⟨(⟨#[48, 46, 57, 46, 50, 51, 52, 50, 46, 49, 57, 50, 48, 48, 51, 48, 48, 46, 49, 48, 48, 46, 49, 46, 50, 53]⟩ : ByteArray), 22, (⟨#[111, 114, 103]⟩ : ByteArray)⟩ : S26) )) (Reps.c3 (show Kd.M k26 _ _ _ (⟨(⟨#[49, 46, 50, 46, 56, 52, 48, 46, 49, 49, 51, 53, 52, 57, 46, 49, 46, 57, 46, 49]⟩ : ByteArray), 22, (⟨#[97, 110, 110, 64, 101, 120, 97, 109, 112, 108, 101, 46, 111, 114, 103]⟩ : ByteArray)⟩ : S26) [.string (⟨#[49, 46, 50, 46, 56, 52, 48, 46, 49, 49, 51, 53, 52, 57, 46, 49, 46, 57, 46, 49]⟩ : ByteArray), .int .i64 22, .string (⟨#[97, 110, 110, 64, 101, 120, 97, 109, 112, 108, 101, 46, 111, 114, 103]⟩ : ByteArray)] from (xy _ _ _ (⟨(⟨#[49, 46, 50, 46, 56, 52, 48, 46, 49, 49, 51, 53, 52, 57, 46, 49, 46, 57, 46, 49]⟩ : ByteArray), 22, (⟨#[97, 110, 110, 64, 101, 120, 97, 109, 112, 108, 101, 46, 111, 114, 103]⟩ : ByteArray)⟩ : S26) )) (Reps.c3 (show Kd.M k26 _ _ _ (⟨(⟨#[49, 46, 50, 46, 56, 52, 48, 46, 49, 49, 51, 53, 52, 57, 46, 49, 46, 57, 46, 49]⟩ : ByteArray), 22, (⟨#[110, 111, 32, 97, 100, 100, 114, 101, 115, 115]⟩ : ByteArray)⟩ : S26) [.string (⟨#[49, 46, 50, 46, 56, 52, 48, 46, 49, 49, 51, 53, 52, 57, 46, 49, 46, 57, 46, 49]⟩ : ByteArray), .int .i64 22, .string (⟨#[110, 111, 32, 97, 100, 100, 114, 101, 115, 115]⟩ : ByteArray)] from (xy _ _ _ (⟨(⟨#[49, 46, 50, 46, 56, 52, 48, 46, 49, 49, 51, 53, 52, 57, 46, 49, 46, 57, 46, 49]⟩ : ByteArray), 22, (⟨#[110, 111, 32, 97, 100, 100, 114, 101, 115, 115]⟩ : ByteArray)⟩ : S26) )) (Reps.c3 (show Kd.M k26 _ _ _ (⟨(⟨#[50, 46, 53, 46, 52, 46, 57, 57]⟩ : ByteArray), 19, (⟨#[120]⟩ : ByteArray)⟩ : S26) [.string (⟨#[50, 46, 53, 46, 52, 46, 57, 57]⟩ : ByteArray), .int .i64 19, .string (⟨#[120]⟩ : ByteArray)] from (xy _ _ _ (⟨(⟨#[50, 46, 53, 46, 52, 46, 57, 57]⟩ : ByteArray), 19, (⟨#[120]⟩ : ByteArray)⟩ : S26) )) (Reps.c3 (show Kd.M k26 _ _ _ (⟨(⟨#[50, 46, 53, 46, 52, 46, 55]⟩ : ByteArray), 12, (⟨#[76]⟩ : ByteArray)⟩ : S26) [.string (⟨#[50, 46, 53, 46, 52, 46, 55]⟩ : ByteArray), .int .i64 12, .string (⟨#[76]⟩ : ByteArray)] from (xy _ _ _ (⟨(⟨#[50, 46, 53, 46, 52, 46, 55]⟩ : ByteArray), 12, (⟨#[76]⟩ : ByteArray)⟩ : S26) )) (Reps.none _ _)))))))))))))); intro v289 w6 ho7 hb hg_ hnew_; clear hg_ hnew_; (first | rw [← Ny288.out] at ho7 | (simp only [Int.reduceToNat] at ho7; rw [← Ny288.out] at ho7)); have n0_ := qa.mk (Kd.R_lower (Kd.R_newB ho7 (g := gb287) (o := .cells #[.string (⟨#[]⟩ : ByteArray), .int .i64 0, .string (⟨#[]⟩ : ByteArray)] 26 (0, 0)) (by (with_reducible repeat (first | refine qh ?_ _ | refine qi ?_ | refine qg ?_ _)); exact BK287.out)) (keep_size (w := w) (g := g) (row := none) (by repeat (first | (with_reducible first | exact HK.out | apply KeepBut.set_ | apply kr | apply keep_drew | apply kt | refine keep_far ?_ GW287.out _) | exact HK.out)))); have n1_ := qa.mk (zd.below (by repeat (first | (with_reducible first | exact HI0.out | apply zd.alloc | apply zd.drewN | apply zd.drew | apply zd.set_1 | refine zd.far ?_ NB0_287.out _) | exact HI0.out)) hb); have n2_ := qa.mk (qv (g := gb287) (o := .cells #[.string (⟨#[]⟩ : ByteArray), .int .i64 0, .string (⟨#[]⟩ : ByteArray)] 26 (0, 0)) (by (with_reducible repeat (first | refine qh ?_ _ | refine qi ?_ | refine qg ?_ _)); exact BK287.out) hb); have n3_ := qa.mk (KeepBut.trans (by repeat (first | (with_reducible first | exact HK.out | apply KeepBut.set_ | apply kr | apply keep_drew | apply kt | refine keep_far ?_ GW287.out _) | exact HK.out)) (KeepBut.of_below hb g none) (.inl rfl)); have n4_ := qa.mk (qk (by repeat (first | (with_reducible first | exact HB.out | apply qc | apply qb | apply qd | refine qe ?_ (zd.ge HI0.out) | refine qe ?_ GE287.out) | exact HB.out)) hb); clear HI0; clear BK287; clear HK; clear HB; have HO290 := n0_; have HI0 := n1_; have BK287 := n2_; have HK := n3_; have HB := n4_; clear n0_ n1_ n2_ n3_ n4_; clear hb ho7) | ((with_reducible refine za (f := 14) rfl ?_); refine xl (some 17) rfl rfl Tryd.func14 (by kernel_rfl) rfl #[.pointer (some ⟨g, 0, none⟩), .int .i64 12] rfl (by (try simp only [List.map_toArray, List.map_cons, List.map_nil]); first | done | rfl | (simp only [List.length_drop, List.length_take]; rfl)) ?_; (with_reducible refine (xa.calls g s0_0 s0_1 12 t291 t292 w0 _ ?side1 ?side2 A2.out).mono ?_); (case side1 => repeat (first | (with_reducible first | exact HI0.out | apply zd.alloc | apply zd.drewN | apply zd.drew | apply zd.set_1 | refine zd.far ?_ NB0_287.out _) | exact HI0.out)); (case side2 => repeat (first | (with_reducible first | exact HB.out | apply qc | apply qb | apply qd | refine qe ?_ (zd.ge HI0.out) | refine qe ?_ GE287.out) | exact HB.out)); rintro e w8 ⟨rfl, hi, hb, hk⟩; refine ⟨_, rfl, ?_⟩; have n0_ := qa.mk (KeepBut.blk hk (g' := gb287) (o := .cells #[.string (⟨#[]⟩ : ByteArray), .int .i64 0, .string (⟨#[]⟩ : ByteArray)] 26 (0, 0)) (by (with_reducible repeat (first | refine qh ?_ _ | refine qi ?_ | refine qg ?_ _)); exact BK287.out) NB287_0.out (by simp)); have n1_ := qa.mk (Kd.xh (Kd.R_keep (zd.apart (show zd w0 _ g s0_0 s0_1 from by repeat (first | (with_reducible first | exact HI0.out | apply zd.alloc | apply zd.drewN | apply zd.drew | apply zd.set_1 | refine zd.far ?_ NB0_287.out _) | exact HI0.out)) (by (with_reducible repeat (first | apply Kd.q8 | apply Kd.q3 | apply Kd.zg)); exact HO290.out) (by decide)) hk (fun _ h => h.2)) (fun _ h => h.1)); have n2_ := qa.mk (KeepBut.trans (by repeat (first | (with_reducible first | exact HK.out | apply KeepBut.set_ | apply kr | apply keep_drew | apply kt | refine keep_far ?_ GW287.out _) | exact HK.out)) hk (.inl rfl)); have n3_ := qa.mk (hb); have n4_ := qa.mk (hi); clear BK287; clear HO290; clear HK; clear HB; clear HI0; have BK287 := n0_; have HO290 := n1_; have HK := n2_; have HB := n3_; have HI0 := n4_; clear n0_ n1_ n2_ n3_ n4_; (try clear hb); (try clear hb2); (try clear hk); (try clear hi); obtain ⟨Ao9, co9, eo9⟩ := Kd.kj HO290.out; subst eo9; have p293 : 0 ≤ (t291 : Int) := of_decide_eq_true (by first | (with_reducible assumption) | assumption); have q293 : t291 < (y288.length : Int) := of_decide_eq_true (by first | (with_reducible assumption) | assumption); obtain ⟨ad293, e293, hx293_0, hx293_1, hx293_2⟩ := at_T26 (Kd.xw HO290.out).2.2 t291 p293 q293; cases e293; replace p293 := eq_true p293; replace q293 := eq_true q293; have hnb10 := NB287_0.out; have hnc10 := NB0_287.out; have hcz11_0 : w8.cell? ⟨gb287, 0, none⟩ = some (.string (⟨#[]⟩ : ByteArray)) := (qf BK287.out 0).trans rfl; have hcz11_1 : w8.cell? ⟨gb287, 1, none⟩ = some (.int .i64 0) := (qf BK287.out 1).trans rfl; have hcz11_2 : w8.cell? ⟨gb287, 2, none⟩ = some (.string (⟨#[]⟩ : ByteArray)) := (qf BK287.out 2).trans rfl; have hfz11_0 := ql BK287.out 0; have hfz11_1 := ql BK287.out 1; have hfz11_2 := ql BK287.out 2))
   refine bodyPost_ret (results_cell_row rfl _ _ gb287 26 #[.string ((qp y288 t291).f0), .int .i64 ((qp y288 t291).f1), .string ((qp y288 t291).f2)] (0, 0) _ rfl (by (with_reducible repeat (first | refine qh ?_ _ | refine qi ?_ | refine qg ?_ _)); refine zl (cs := #[.string ((qp y288 t291).f0), .int .i64 ((qp y288 t291).f1), .string (⟨#[]⟩ : ByteArray)]) ?_ 2 _ rfl; (with_reducible repeat (first | refine qh ?_ _ | refine qi ?_ | refine qg ?_ _)); refine zl (cs := #[.string ((qp y288 t291).f0), .int .i64 0, .string (⟨#[]⟩ : ByteArray)]) ?_ 1 _ rfl; (with_reducible repeat (first | refine qh ?_ _ | refine qi ?_ | refine qg ?_ _)); refine zl (cs := #[.string (⟨#[]⟩ : ByteArray), .int .i64 0, .string (⟨#[]⟩ : ByteArray)]) ?_ 0 _ rfl; (with_reducible repeat (first | refine qh ?_ _ | refine qi ?_ | refine qg ?_ _)); exact BK287.out) Tryd.underlying26 rfl (by kernel_rfl)) rfl ?_
   exact ⟨by first | rfl | (simp [qr, qq] <;> rfl) | (simp [*, qr, qq] <;> rfl), by repeat (first | (with_reducible first | exact HI0.out | apply zd.alloc | apply zd.drewN | apply zd.drew | apply zd.set_1 | refine zd.far ?_ NB0_287.out _) | exact HI0.out), by repeat (first | (with_reducible first | exact HB.out | apply qc | apply qb | apply qd | refine qe ?_ (zd.ge HI0.out) | refine qe ?_ GE287.out) | exact HB.out), by repeat (first | (with_reducible first | exact HK.out | apply KeepBut.set_ | apply kr | apply keep_drew | apply kt | refine keep_far ?_ GW287.out _) | exact HK.out)⟩
  ·rw [if_neg c4] at H
   exact absurd H (by simp)
 ·rw [if_neg c3] at H
  exact absurd H (by simp)
end Go.Proofs.YtjhlinifnjoefaaDoor.C
end
section
namespace Go.Proofs.YtjhlinifnjoefaaDoor.Pl
open Go.RowKit Go.Proofs.YtjhlinifnjoefaaDoorW.PrintWords Go.Proofs.YtjhlinifnjoefaaDoor.C
set_option linter.unusedSimpArgs false
set_option linter.unusedVariables false
set_option maxRecDepth 100000
def foldStep (st : List Int × Bool) (c : Int) : List Int × Bool := if c = 32 then (st.1, decide ((st.1.length : Int) > 0)) else (st.1 ++ (if st.2 then [32] else []) ++ [lowC c], false)
def foldP (l : List Int) : List Int := (l.foldl foldStep ([], false)).1
def F (s : ByteArray) : ByteArray := strOfNums (foldP (bytesOf s))
theorem lowC_low (c : Int) : lowC (lowC c) = lowC c := by
 unfold lowC
 split
 ·split <;> omega
 ·rfl
theorem lowC_space (c : Int) : lowC c = 32 ↔ c = 32 := by unfold lowC; split <;> omega
theorem foldStep_low (st : List Int × Bool) (c : Int) : foldStep st (lowC c) = foldStep st c := by
 unfold foldStep
 by_cases h : c = 32
 ·rw [if_pos h, if_pos ((lowC_space c).2 h)]
 ·rw [if_neg h, if_neg (fun h' => h ((lowC_space c).1 h')), lowC_low]
theorem foldP_low (l : List Int) : foldP (l.map lowC) = foldP l := by
 unfold foldP
 rw [List.foldl_map]
 congr 2
 funext st c
 exact foldStep_low st c
theorem foldP_space (l : List Int) : foldP (32 :: l) = foldP l := rfl
theorem rd_cons {y : List Int} {i : Nat} {c : Int} {r : List Int} (h : y.drop i = c :: r) : i < y.length ∧ rd y i = c ∧ y.drop (i + 1) = r := by
 have hl : i < y.length := by
  rcases Nat.lt_or_ge i y.length with h' | h'
  ·exact h'
  ·rw [List.drop_eq_nil_of_le h'] at h; cases h
 rw [List.drop_eq_getElem_cons hl] at h
 refine ⟨hl, ?_, (List.cons.inj h).2⟩
 unfold rd
 rw [Int.toNat_natCast, List.getD_eq_getElem?_getD, List.getElem?_eq_getElem hl]
 exact (List.cons.inj h).1
theorem push_t (y : List Int) (hy : y.length ≤ 1000000000) (c : Int) (i : Nat) (out : List Int) (gap : Bool) (r : ByteArray) (hi : i < y.length) (ho : out.length ≤ 2 * i + 1)
  (h : Ev (fun k => qy.l0 k (out ++ [lowC c]) gap y (y.length : Int) ((i + 1 : Nat) : Int)) r) : Ev (fun k => qy.j1 k out gap c y (y.length : Int) i) r := by
 refine Ev.step (fun k => by rw [qy.j1]) ?_
 rw [w64 (n := (i : Int) + 1) (by omega) (by omega)]
 by_cases h1 : c ≥ 65
 ·refine Ev.pos h1 ?_
  by_cases h2 : c ≤ 90
  ·refine Ev.pos h2 (Ev.pos (by omega) ?_)
   rw [show (c + 32) % 256 = lowC c from by unfold lowC; rw [if_pos ⟨h1, h2⟩]; omega]
   exact h
  ·refine Ev.neg h2 (Ev.pos (by omega) ?_)
   rw [show [c] = [lowC c] from by unfold lowC; rw [if_neg (by omega)]]
   exact h
 ·refine Ev.neg h1 (Ev.pos (by omega) ?_)
  rw [show [c] = [lowC c] from by unfold lowC; rw [if_neg (by omega)]]
  exact h
theorem Fold_t0 (y : List Int) (hy : y.length ≤ 1000000000) : ∀ (rest : List Int) (i : Nat) (out : List Int) (gap : Bool), y.drop i = rest → out.length ≤ 2 * i → i ≤ y.length →
  Ev (fun k => qy.l0 k out gap y (y.length : Int) i) (strOfNums (rest.foldl foldStep (out, gap)).1)
 | [], i, out, gap, h, ho, hi => by
  have := List.drop_eq_nil_iff.1 h
  refine Ev.step (fun k => by rw [qy.l0]) ?_
  exact Ev.neg (by omega) (Ev.now _)
 | c :: rest, i, out, gap, h, ho, hi => by
  obtain ⟨h1, h2, h3⟩ := rd_cons h
  refine Ev.step (fun k => by rw [qy.l0]) ?_
  refine Ev.pos (by omega) (Ev.pos (by omega) (Ev.pos (by omega) ?_))
  rw [h2, List.foldl_cons]
  by_cases hc : c = 32
  ·refine Ev.pos hc ?_
   rw [w64 (n := (i : Int) + 1) (by omega) (by omega), show foldStep (out, gap) c = (out, decide ((out.length : Int) > 0)) from by unfold foldStep; rw [if_pos hc]]
   exact Fold_t0 y hy rest (i + 1) out _ h3 (by omega) (by omega)
  ·refine Ev.neg hc ?_
   rw [show foldStep (out, gap) c = (out ++ (if gap then [32] else []) ++ [lowC c], false) from by unfold foldStep; rw [if_neg hc]]
   cases gap with
   | true =>
    refine Ev.pos rfl (Ev.pos (by omega) ?_)
    exact push_t y hy c i (out ++ [32]) false _ h1 (by simp; omega) (Fold_t0 y hy rest (i + 1) _ false h3 (by simp; omega) (by omega))
   | false =>
    refine Ev.neg (by simp) ?_
    rw [show out ++ (if false = true then [32] else []) = out from by simp]
    exact push_t y hy c i out false _ h1 (by omega) (Fold_t0 y hy rest (i + 1) _ false h3 (by simp; omega) (by omega))
theorem Fold_t (s : ByteArray) (hs : s.size ≤ 1000000000) : Ev (fun k => qy.f k s) (F s) := by
 unfold qy.f
 refine Ev.pos (by omega) (Ev.bnd rfl ?_)
 exact Fold_t0 (bytesOf s) (by rw [bytesOf_length]; exact hs) (bytesOf s) 0 [] false rfl (Nat.zero_le _) (Nat.zero_le _)
theorem low_byte (b : UInt8) : ((UInt8.ofNat (lowC (b.toNat : Int)).toNat).toNat : Int) = lowC (b.toNat : Int) := by
 have h := b.toNat_lt
 unfold lowC
 split <;> simp <;> omega
def eqA (a b : S26) : Bool := if a.f0.toList = b.f0.toList then (F a.f2).toList == (F b.f2).toList else false
def hasS (l : List S26) (a : S26) : Bool := l.any fun b => eqA a b
def sameS (a b : List S26) : Bool := decide (a.length = b.length) && (a.zip b).all fun p => hasS b p.1 && hasS a p.2
def withinS (n base : List (List S26)) : Bool := decide (base.length ≤ n.length) && (n.zip base).all fun p => sameS p.1 p.2
def matchS (a b : List (List S26)) : Bool := decide (a.length = b.length) && withinS a b
theorem eqA_comm (a b : S26) : eqA a b = eqA b a := by
 unfold eqA
 by_cases h : a.f0.toList = b.f0.toList
 ·rw [if_pos h, if_pos h.symm]
  exact Bool.eq_iff_iff.2 ⟨fun h => by simpa using (beq_iff_eq.1 h).symm, fun h => by simpa using (beq_iff_eq.1 h).symm⟩
 ·rw [if_neg h, if_neg (fun h' => h h'.symm)]
def Fine (l : List S26) : Prop := l.length ≤ 1000000000 ∧ ∀ a ∈ l, a.f2.size ≤ 1000000000
def FineN (n : List (List S26)) : Prop := n.length ≤ 1000000000 ∧ ∀ r ∈ n, Fine r
theorem row26 {l : List S26} {i : Nat} {a : S26} {r : List S26} (h : l.drop i = a :: r) : i < l.length ∧ qp l i = a ∧ l.drop (i + 1) = r := by
 have hl : i < l.length := by
  rcases Nat.lt_or_ge i l.length with h' | h'
  ·exact h'
  ·rw [List.drop_eq_nil_of_le h'] at h; cases h
 rw [List.drop_eq_getElem_cons hl] at h
 refine ⟨hl, ?_, (List.cons.inj h).2⟩
 unfold qp
 rw [Int.toNat_natCast, List.getD_eq_getElem?_getD, List.getElem?_eq_getElem hl]
 exact (List.cons.inj h).1
theorem Match_t (x y : ByteArray) (hx : x.size ≤ 1000000000) (hy : y.size ≤ 1000000000) : Ev (fun k => xr.f k x y) ((F x).toList == (F y).toList) := by
 unfold xr.f
 exact Ev.bind (Fold_t x hx) (Ev.bind (f := fun _ t => some _) (Fold_t y hy) (Ev.now _))
theorem has_t0 (l : List S26) (hl : Fine l) (b0 : ByteArray) (b1 : Int) (b2 : ByteArray) (hb : b2.size ≤ 1000000000) : ∀ (rest : List S26) (i : Nat), l.drop i = rest → i ≤ l.length →
  Ev (fun k => zi.l0 k l (l.length : Int) i b0 b1 b2) (rest.any fun b => eqA ⟨b0, b1, b2⟩ b)
 | [], i, h, hi => by
  have := List.drop_eq_nil_iff.1 h
  refine Ev.step (fun k => by rw [zi.l0]) ?_
  exact Ev.neg (by omega) (Ev.now _)
 | a :: rest, i, h, hi => by
  obtain ⟨h1, h2, h3⟩ := row26 h
  have hl1 := hl.1
  have ha := hl.2 a (List.mem_of_mem_drop (by rw [h]; exact List.mem_cons_self))
  refine Ev.step (fun k => by rw [zi.l0]) ?_
  rw [h2, w64 (n := (i : Int) + 1) (by omega) (by omega), List.any_cons]
  refine Ev.pos (by omega) (Ev.pos (by omega) (Ev.pos (by omega) ?_))
  have ih := has_t0 l hl b0 b1 b2 hb rest (i + 1) h3 (by omega)
  by_cases he : b0.toList = a.f0.toList
  ·refine Ev.pos he (Ev.bind (Match_t b2 a.f2 hb ha) ?_)
   rw [show eqA ⟨b0, b1, b2⟩ a = ((F b2).toList == (F a.f2).toList) from by unfold eqA; rw [if_pos he]]
   by_cases hm : ((F b2).toList == (F a.f2).toList) = true
   ·rw [hm]
    exact Ev.pos rfl (Ev.now _)
   ·rw [Bool.eq_false_iff.mpr hm]
    refine Ev.neg (by simp) ?_
    simpa using ih
  ·refine Ev.neg he ?_
   rw [show eqA ⟨b0, b1, b2⟩ a = false from by unfold eqA; rw [if_neg he]]
   simpa using ih
theorem has_t (l : List S26) (hl : Fine l) (a : S26) (ha : a.f2.size ≤ 1000000000) : Ev (fun k => zi.f k l a.f0 a.f1 a.f2) (hasS l a) := by
 unfold zi.f
 exact has_t0 l hl a.f0 a.f1 a.f2 ha l 0 rfl (Nat.zero_le _)
theorem zip_drop {α β : Type} {a : List α} {b : List β} (i : Nat) (ha : i < a.length) (hb : i < b.length) : (a.zip b).drop i = (a[i], b[i]) :: (a.zip b).drop (i + 1) := by
 have h : i < (a.zip b).length := by rw [List.length_zip]; omega
 rw [List.drop_eq_getElem_cons h, List.getElem_zip]
theorem at26 {l : List S26} {i : Nat} (h : i < l.length) : qp l (i : Int) = l[i] := by
 unfold qp
 rw [Int.toNat_natCast, List.getD_eq_getElem?_getD, List.getElem?_eq_getElem h]
 rfl
theorem atL4 {l : List (List S26)} {i : Nat} (h : i < l.length) : kf l (i : Int) = l[i] := by
 unfold kf
 rw [Int.toNat_natCast, List.getD_eq_getElem?_getD, List.getElem?_eq_getElem h]
 rfl
theorem same_t0 (a b : List S26) (ha : Fine a) (hb : Fine b) (hab : a.length = b.length) : ∀ (d i : Nat), i + d = a.length → Ev (fun k => zh.l0 k a b (a.length : Int) i) (((a.zip b).drop i).all fun p => hasS b p.1 && hasS a p.2)
 | 0, i, h => by
  refine Ev.step (fun k => by rw [zh.l0]) ?_
  rw [List.drop_eq_nil_of_le (by rw [List.length_zip]; omega)]
  exact Ev.neg (by omega) (Ev.now _)
 | d + 1, i, h => by
  have ha1 := ha.1
  have h1 : i < a.length := by omega
  have h2 : i < b.length := by omega
  have ih := same_t0 a b ha hb hab d (i + 1) (by omega)
  refine Ev.step (fun k => by rw [zh.l0]) ?_
  rw [zip_drop i h1 h2, List.all_cons, at26 h1, at26 h2, w64 (n := (i : Int) + 1) (by omega) (by omega)]
  refine Ev.pos (by omega) (Ev.pos (by omega) (Ev.pos (by omega) (Ev.bind (has_t b hb a[i] (ha.2 _ (List.getElem_mem h1))) ?_)))
  show Ev _ ((hasS b a[i] && hasS a b[i]) && _)
  cases hasS b a[i] with
  | false => exact Ev.neg (by simp) (Ev.now _)
  | true =>
   refine Ev.pos rfl (Ev.pos (by omega) (Ev.bind (has_t a ha b[i] (hb.2 _ (List.getElem_mem h2))) ?_))
   cases hasS a b[i] with
   | false => exact Ev.neg (by simp) (Ev.now _)
   | true => exact Ev.pos rfl (by simpa using ih)
theorem same_t (a b : List S26) (ha : Fine a) (hb : Fine b) : Ev (fun k => zh.f k a b) (sameS a b) := by
 unfold zh.f sameS
 by_cases h : a.length = b.length
 ·rw [decide_eq_true h]
  exact Ev.pos (by omega) (same_t0 a b ha hb h a.length 0 (by omega))
 ·rw [decide_eq_false h]
  exact Ev.neg (by omega) (Ev.now _)
theorem within_t0 (n b : List (List S26)) (hn : FineN n) (hb : FineN b) (hab : b.length ≤ n.length) : ∀ (d i : Nat), i + d = b.length → Ev (fun k => qx.l0 k (b.length : Int) i n b) (((n.zip b).drop i).all fun p => sameS p.1 p.2)
 | 0, i, h => by
  refine Ev.step (fun k => by rw [qx.l0]) ?_
  rw [List.drop_eq_nil_of_le (by rw [List.length_zip]; omega)]
  exact Ev.neg (by omega) (Ev.now _)
 | d + 1, i, h => by
  have hb1 := hb.1
  have h1 : i < n.length := by omega
  have h2 : i < b.length := by omega
  have ih := within_t0 n b hn hb hab d (i + 1) (by omega)
  refine Ev.step (fun k => by rw [qx.l0]) ?_
  rw [zip_drop i h1 h2, List.all_cons, atL4 h1, atL4 h2, w64 (n := (i : Int) + 1) (by omega) (by omega)]
  refine Ev.pos (by omega) (Ev.pos (by omega) (Ev.pos (by omega) (Ev.pos (by omega) (Ev.bind (same_t n[i] b[i] (hn.2 _ (List.getElem_mem h1)) (hb.2 _ (List.getElem_mem h2))) ?_))))
  show Ev _ (sameS n[i] b[i] && _)
  cases sameS n[i] b[i] with
  | false => exact Ev.neg (by simp) (Ev.now _)
  | true => exact Ev.pos rfl (by simpa using ih)
theorem Within_t (n b : List (List S26)) (hn : FineN n) (hb : FineN b) : Ev (fun k => qx.f k n b) (withinS n b) := by
 unfold qx.f withinS
 by_cases h : b.length ≤ n.length
 ·rw [decide_eq_true h]
  exact Ev.neg (by omega) (within_t0 n b hn hb h b.length 0 (by omega))
 ·rw [decide_eq_false h]
  exact Ev.pos (by omega) (Ev.now _)
theorem MatchN_t (a b : List (List S26)) (ha : FineN a) (hb : FineN b) : Ev (fun k => zx.f k a b) (matchS a b) := by
 unfold zx.f matchS
 by_cases h : a.length = b.length
 ·rw [decide_eq_true h]
  exact Ev.pos (by omega) (Ev.bind (f := fun _ t => some _) (Within_t a b ha hb) (Ev.now _))
 ·rw [decide_eq_false h]
  exact Ev.neg (by omega) (Ev.now _)
end Go.Proofs.YtjhlinifnjoefaaDoor.Pl
end
section
namespace Go.Proofs.YtjhlinifnjoefaaDoor.C
open Go.RowKit Go.Proofs.YtjhlinifnjoefaaDoorW.PrintWords Go.Proofs.YtjhlinifnjoefaaDoorW.PrintLast Go.Proofs.YtjhlinifnjoefaaDoorW.PrintMore
attribute [local go_sem] z8 z7 xf xe zu zv zz zy
set_option linter.unusedVariables false
set_option linter.unusedSimpArgs false
def DK (w0 W : World) (g : Nat) : Prop := ∃ (L : List Int) (At : Int), zd w0 W g L At ∧ 0 ≤ At ∧ At ≤ L.length ∧ L.length ≤ 140737488351232
theorem DK.below {w0 W W1 : World} {g : Nat} (h : DK w0 W g) (hb : Below W.heap.size W W1) : DK w0 W1 g := let ⟨L, At, hi, h⟩ := h; ⟨L, At, zd.below hi hb, h⟩
theorem DK.ge {w0 W : World} {g : Nat} (h : DK w0 W g) : w0.heap.size ≤ g := let ⟨L, At, hi, h⟩ := h; zd.ge hi
theorem DK.lt {w0 W : World} {g : Nat} (h : DK w0 W g) : g < W.heap.size := let ⟨L, At, hi, h⟩ := h; zd.lt hi
theorem DK.blk {w0 W : World} {g : Nat} (h : DK w0 W g) : ∃ cs, W.heap[g]? = some (.cells cs 51 (0, 0)) := let ⟨L, At, ⟨A0, c0, hb, _⟩, h⟩ := h; ⟨_, hb⟩
theorem DK.grown {w0 W W1 : World} {g : Nat} {row : Option Nat} (h : DK w0 W g) (hw : W.grownBy W1 row) (hne : some g ≠ row) : DK w0 W1 g := let ⟨L, At, hi, h⟩ := h; ⟨L, At, zd.grown hi hw hne, h⟩
theorem DK.far {w0 W : World} {g : Nat} (h : DK w0 W g) {p : Addr} (hne : g ≠ p.block) (u : Value) : DK w0 (W.setCell p u) g := let ⟨L, At, hi, h⟩ := h; ⟨L, At, zd.far hi hne u, h⟩
theorem tmod_in (x a : Int) (h : 0 < a) (h1 : a ≤ 1000) : ∃ r, Int.tmod (wrap64 (Int.tmod x a + a)) a = r ∧ 0 ≤ r ∧ r < a := by
 have h2 := Int.tmod_lt_of_pos x h
 have h3 : -a < Int.tmod x a := by
  have h4 := Int.neg_tmod x a
  have h5 := Int.tmod_lt_of_pos (-x) h
  rw [h4] at h5
  omega
 have h6 : wrap64 (Int.tmod x a + a) = Int.tmod x a + a := by unfold wrap64; omega
 exact ⟨_, rfl, by rw [h6]; exact Int.tmod_nonneg _ (by omega), Int.tmod_lt_of_pos _ h⟩
theorem next_f (L : List Int) (At a : Int) (h : 0 ≤ At) (h1 : At ≤ L.length) (hL : L.length ≤ 140737488351232) (ha : 0 < a) (ha1 : a ≤ 1000) :
  ∃ r At', xa.f L At a = some (r, At') ∧ 0 ≤ r ∧ r < a ∧ 0 ≤ At' ∧ At' ≤ L.length := by
 unfold xa.f
 by_cases c : At ≥ (L.length : Int)
 ·exact ⟨0, At, if_pos c, by omega, ha, h, h1⟩
 ·have e1 : wrap64 (At + 1) = At + 1 := by unfold wrap64; omega
  have e2 : wrap64 (wrap64 (At + 1) - 1) = At := by rw [e1]; unfold wrap64; omega
  rw [if_neg c, e2, e1, if_pos h, if_pos (by omega), if_neg (by omega)]
  obtain ⟨r, hr, h2, h3⟩ := tmod_in (rd L At) a ha ha1
  exact ⟨r, At + 1, by rw [hr], h2, h3, by omega, by omega⟩
theorem next_weak (g : Nat) (a : Int) (ha : 0 < a) (ha1 : a ≤ 1000) (w0 w : World) (hI : DK w0 w g) (hB : Below w0.heap.size w0 w) :
  Calls Tryd.prog 14 #[.pointer (some ⟨g, 0, none⟩), .int .i64 a] w fun e w' => ∃ r, e = .returned (.int .i64 r) ∧ 0 ≤ r ∧ r < a ∧ DK w0 w' g ∧ Below w0.heap.size w0 w' ∧ KeepBut w w' g none := by
 obtain ⟨L, At, hi, h, h1, hL⟩ := hI
 obtain ⟨r, At', hf, h2, h3, h4, h5⟩ := next_f L At a h h1 hL ha ha1
 refine (xa.calls g L At a r At' w0 w hi hB hf).mono ?_
 rintro e w' ⟨rfl, hi', hb, hk⟩
 exact ⟨r, rfl, h2, h3, ⟨L, At', hi', h4, h5, hL⟩, hb, hk⟩
def made12 : List S26 := ([(⟨(⟨#[50, 46, 53, 46, 52, 46, 51]⟩ : ByteArray), 12, (⟨#[65, 110, 110]⟩ : ByteArray)⟩ : S26), (⟨(⟨#[50, 46, 53, 46, 52, 46, 51]⟩ : ByteArray), 19, (⟨#[32, 97, 110, 110]⟩ : ByteArray)⟩ : S26), (⟨(⟨#[50, 46, 53, 46, 52, 46, 51]⟩ : ByteArray), 12, (⟨#[103, 114, 195, 182, 195, 159, 101]⟩ : ByteArray)⟩ : S26), (⟨(⟨#[50, 46, 53, 46, 52, 46, 54]⟩ : ByteArray), 19, (⟨#[85, 83]⟩ : ByteArray)⟩ : S26), (⟨(⟨#[50, 46, 53, 46, 52, 46, 49, 48]⟩ : ByteArray), 19, (⟨#[69, 120, 97, 109, 112, 108, 101, 32, 32, 67, 111, 114, 112]⟩ : ByteArray)⟩ : S26), (⟨(⟨#[50, 46, 53, 46, 52, 46, 49, 48]⟩ : ByteArray), 12, (⟨#[101, 120, 97, 109, 112, 108, 101, 32, 99, 111, 114, 112]⟩ : ByteArray)⟩ : S26), (⟨(⟨#[50, 46, 53, 46, 52, 46, 49, 49]⟩ : ByteArray), 22, (⟨#[97, 44, 98, 43, 99, 61, 100, 92, 101]⟩ : ByteArray)⟩ : S26), (⟨(⟨#[48, 46, 57, 46, 50, 51, 52, 50, 46, 49, 57, 50, 48, 48, 51, 48, 48, 46, 49, 48, 48, 46, 49, 46, 50, 53]⟩ : ByteArray), 22, (⟨#[111, 114, 103]⟩ : ByteArray)⟩ : S26), (⟨(⟨#[49, 46, 50, 46, 56, 52, 48, 46, 49, 49, 51, 53, 52, 57, 46, 49, 46, 57, 46, 49]⟩ : ByteArray), 22, (⟨#[97, 110, 110, 64, 101, 120, 97, 109, 112, 108, 101, 46, 111, 114, 103]⟩ : ByteArray)⟩ : S26), (⟨(⟨#[49, 46, 50, 46, 56, 52, 48, 46, 49, 49, 51, 53, 52, 57, 46, 49, 46, 57, 46, 49]⟩ : ByteArray), 22, (⟨#[110, 111, 32, 97, 100, 100, 114, 101, 115, 115]⟩ : ByteArray)⟩ : S26), (⟨(⟨#[50, 46, 53, 46, 52, 46, 57, 57]⟩ : ByteArray), 19, (⟨#[120]⟩ : ByteArray)⟩ : S26), (⟨(⟨#[50, 46, 53, 46, 52, 46, 55]⟩ : ByteArray), 12, (⟨#[76]⟩ : ByteArray)⟩ : S26)] : List (S26))
theorem attr_weak (g : Nat) (w0 w : World) (hI : DK w0 w g) (hB : Below w0.heap.size w0 w) :
  Calls Tryd.prog 22 #[.pointer (some ⟨g, 0, none⟩)] w fun e w' => ∃ a, a ∈ made12 ∧ e = .returned (.agg #[.string a.f0, .int .i64 a.f1, .string a.f2]) ∧ DK w0 w' g ∧ Below w0.heap.size w0 w' ∧ KeepBut w w' g none := by
 obtain ⟨L, At, hi, h, h1, hL⟩ := hI
 obtain ⟨r, At', hf, h2, h3, h4, h5⟩ := next_f L At 12 h h1 hL (by omega) (by omega)
 have hm : made12.length = 12 := by kernel_rfl
 have hr : qp made12 r ∈ made12 := by
  unfold qp
  rw [List.getD_eq_getElem?_getD, List.getElem?_eq_getElem (by omega)]
  exact List.getElem_mem (by omega)
 refine (kp.calls g L At (qp made12 r).f0 (qp made12 r).f1 (qp made12 r).f2 At' w0 w hi hB ?_).mono ?_
 ·show Option.bind (some made12) _ = _
  rw [Option.bind_some, hf, Option.bind_some, if_pos h2, if_pos (by show r < ((made12.length : Nat) : Int); rw [hm]; omega)]
 ·rintro e w' ⟨rfl, hi', hb, hk⟩
  exact ⟨_, hr, rfl, ⟨L, At', hi', h4, h5, hL⟩, hb, hk⟩
def RI (r : List S26) (y : Int) : Prop := (r = [] ∧ 1 ≤ y ∧ y ≤ 2) ∨ (∃ a, a ∈ made12 ∧ r = [a] ∧ 0 ≤ y ∧ y ≤ 1) ∨ (∃ a b, a ∈ made12 ∧ b ∈ made12 ∧ a.f0.toList ≠ b.f0.toList ∧ r = [a, b] ∧ y = 0)
def RelMade (r : List S26) : Prop := (∃ a, a ∈ made12 ∧ r = [a]) ∨ (∃ a b, a ∈ made12 ∧ b ∈ made12 ∧ a.f0.toList ≠ b.f0.toList ∧ r = [a, b])
theorem RI.done {r : List S26} {y : Int} (h : RI r y) (hy : ¬ y > 0) : RelMade r := by
 rcases h with ⟨rfl, h, _⟩ | ⟨a, ha, rfl, _⟩ | ⟨a, b, ha, hb, hn, rfl, _⟩
 ·omega
 ·exact .inl ⟨a, ha, rfl⟩
 ·exact .inr ⟨a, b, ha, hb, hn, rfl⟩
structure NSt (w0 w : World) (g g2 g3 : Nat) (W : World) (ok : Nat → Prop) (un : Value) (ns : List (List S26)) : Prop where
 di : DK w0 W g
 b : Below w0.heap.size w0 W
 k : KeepBut w W g none
 b2 : W.heap[g2]? = some (.cells #[.slice none 0 0] 24 (0, 0))
 b3 : W.heap[g3]? = some (.cells #[un] 24 (0, 0))
 s : Kd.S (Kd.slice 26 k26) 27 W w.heap.size ok un ns
 h2 : w.heap.size ≤ g2
 h3 : w.heap.size ≤ g3
 hg : g < w.heap.size
 hw : w0.heap.size ≤ w.heap.size
section
variable {w0 w : World} {g g2 g3 : Nat} {W W' : World} {ok ok' : Nat → Prop} {un : Value} {ns : List (List S26)}
theorem NSt.below (h : NSt w0 w g g2 g3 W ok un ns) (hb : Below W.heap.size W W') : NSt w0 w g g2 g3 W' ok un ns :=
 ⟨h.di.below hb, qk h.b hb, KeepBut.trans h.k (KeepBut.of_below hb g none) (.inl rfl), qv h.b2 hb, qv h.b3 hb, Kd.xg h.s hb, h.h2, h.h3, h.hg, h.hw⟩
theorem NSt.mono (h : NSt w0 w g g2 g3 W ok un ns) (hok : ∀ k, w.heap.size ≤ k → k < W.heap.size → ok k → ok' k) : NSt w0 w g g2 g3 W ok' un ns :=
 ⟨h.di, h.b, h.k, h.b2, h.b3, Kd.xo (Kd.S_bound h.s) (fun k hk => hok k hk.2.1 hk.2.2.1 hk.1), h.h2, h.h3, h.hg, h.hw⟩
theorem NSt.call (h : NSt w0 w g g2 g3 W ok un ns) (hd : DK w0 W' g) (hb : Below w0.heap.size w0 W') (hk : KeepBut W W' g none) : NSt w0 w g g2 g3 W' ok un ns := by
 obtain ⟨L, At, hi, _⟩ := h.di
 refine ⟨hd, hb, KeepBut.trans h.k hk (.inl rfl), KeepBut.blk hk h.b2 (by have := h.h2; have := h.hg; omega) (by simp), KeepBut.blk hk h.b3 (by have := h.h3; have := h.hg; omega) (by simp), ?_, h.h2, h.h3, h.hg, h.hw⟩
 exact Kd.xo (Kd.S_keep (zd.apartS hi h.s (by decide)) hk (fun _ hk => hk.2)) (fun _ hk => hk.1)
theorem keep_grown {row : Option Nat} (h : KeepBut w W g none) (hg : W.grownBy W' row) (hr : ∀ k, row = some k → w.heap.size ≤ k) : KeepBut w W' g none :=
 KeepBut.trans h (KeepBut.of_grown hg g) (by
  cases row with
  | none => exact .inl rfl
  | some k => exact .inr ⟨k, rfl, hr k rfl⟩)
theorem NSt.grown {row : Option Nat} (h : NSt w0 w g g2 g3 W ok un ns) (hg : W.grownBy W' row) (hb : Below w.heap.size W W') (hr : ∀ k, row = some k → w.heap.size ≤ k) (h2 : some g2 ≠ row) (h3 : some g3 ≠ row) (hok : ∀ k, ok k → some k ≠ row) :
  NSt w0 w g g2 g3 W' ok un ns :=
 ⟨h.di.grown hg (fun e => by have := hr g e.symm; have := h.hg; omega), h.b.trans (hb.mono h.hw), keep_grown h.k hg hr, kc h.b2 hg h2, kc h.b3 hg h3, Kd.S_grown h.s hg hok, h.h2, h.h3, h.hg, h.hw⟩
theorem NSt.push (h : NSt w0 w g g2 g3 W ok un ns) {v1 : Value} {ns' : List (List S26)} (hg : W.grownBy W' un.ownBlock) (hb : Below w.heap.size W W') (hs : Kd.S (Kd.slice 26 k26) 27 W' w.heap.size ok' v1 ns') (h23 : g2 ≠ g3) :
  NSt w0 w g g2 g3 (W'.setCell ⟨g3, 0, none⟩ v1) ok' v1 ns' := by
 have hr := Kd.S_base h.s
 have b3 := kc h.b3 hg (Kd.S_ne h.s h.b3 (by decide))
 refine ⟨(h.di.grown hg (fun e => by have := hr g e.symm; have := h.hg; omega)).far (by show g ≠ g3; have := h.hg; have := h.h3; omega) _, ?_, keep_far (keep_grown h.k hg hr) h.h3 _, ?_, zl b3 0 v1 rfl, Kd.S_set hs b3 (by decide) 0 v1, h.h2, h.h3, h.hg, h.hw⟩
 ·exact qe (h.b.trans (hb.mono h.hw)) (Nat.le_trans h.hw h.h3)
 ·exact xb (kc h.b2 hg (Kd.S_ne h.s h.b2 (by decide))) h23 _
end
theorem ne_new {v v1 : Value} {n k : Nat} (ho : v1.ownBlock = v.ownBlock ∨ ∃ b, v1.ownBlock = some b ∧ n ≤ b) (h : some k ≠ v.ownBlock ∧ k < n) : some k ≠ v1.ownBlock := by
 rcases ho with e | ⟨b, e, hb⟩
 ·rw [e]; exact h.1
 ·rw [e]
  intro e2
  injection e2 with e2
  have := h.2
  omega
theorem row_call {w0 W W' : World} {g base : Nat} {u : Value} {r : List S26} (hd : DK w0 W g) (h : Kd.R k26 26 W base (fun _ => True) u r) (hk : KeepBut W W' g none) : Kd.R k26 26 W' base (fun _ => True) u r := by
 obtain ⟨L, At, hi, _⟩ := hd
 exact Kd.xh (Kd.R_keep (zd.apart hi h (by decide)) hk (fun _ hk => hk.2)) (fun _ hk => hk.1)
set_option maxHeartbeats 8000000 in
set_option maxRecDepth 100000 in
theorem name_weak (g : Nat) (w0 w : World) (hI : DK w0 w g) (hB : Below w0.heap.size w0 w) :
  Calls Tryd.prog 12 #[.pointer (some ⟨g, 0, none⟩)] w fun e w' => ∃ (v : Value) (n : List (List S26)), e = .returned (.agg #[v]) ∧ n.length ≤ 3 ∧ (∀ r ∈ n, RelMade r) ∧
   Kd.S (Kd.slice 26 k26) 27 w' w.heap.size (fun k => k ≠ g) v n ∧ DK w0 w' g ∧ Below w0.heap.size w0 w' ∧ KeepBut w w' g none := by
 have hu24 := Tryd.underlying24
 have hu26 := Tryd.underlying26
 have hg := qa.mk hI.lt
 have hw := qa.mk hB.size
 have HI := qa.mk hI
 have HB := qa.mk hB
 clear hI hB
 go_enter Tryd.func12, Tryd.ntmps12
 go_upto_region 2 with (fail)
 obtain ⟨W1, hW1⟩ : ∃ W, W = ((w.alloc (Obj.cells #[Value.slice none 0 0] 24)).alloc (Obj.cells #[Value.slice none 0 0] 24)) := ⟨_, rfl⟩
 rw [← hW1]
 have hb1 : Below w.heap.size w W1 := by rw [hW1]; exact qc (qc (Below.refl _ _) _) _
 have hb2 : W1.heap[w.heap.size]? = some (.cells #[.slice none 0 0] 24 (0, 0)) := by rw [hW1]; exact qg (heap_alloc_new w _) _
 have hb3 : W1.heap[w.heap.size + 1]? = some (.cells #[.slice none 0 0] 24 (0, 0)) := by rw [hW1]; simpa using heap_alloc_new (w.alloc (Obj.cells #[Value.slice none 0 0] 24)) (Obj.cells #[Value.slice none 0 0] 24)
 have ST : qa (NSt w0 w g w.heap.size (w.heap.size + 1) W1 (fun _ => True) (.slice none 0 0) []) := ⟨HI.out.below hb1, qk HB.out hb1, KeepBut.of_below hb1 g none, hb2, hb3, Kd.S_nil _ _ _ _ _, Nat.le_refl _, Nat.le_succ _, hg.out, hw.out⟩
 clear hW1 hb1 hb2 hb3
 have G23 := qa.mk (show w.heap.size ≠ w.heap.size + 1 by omega)
 generalize w.heap.size + 1 = g3 at ST G23 ⊢
 obtain ⟨g2, hg2⟩ : ∃ x, x = w.heap.size := ⟨_, rfl⟩
 rw [← hg2] at ST G23 ⊢
 clear hg2
 go_wp2_with (go_at_call 14; refine (next_weak g 4 (by omega) (by omega) w0 _ ST.out.di ST.out.b).mono ?_; rintro e W2 ⟨x0, rfl, hx0, hx1, di, hb, hk⟩; replace ST := qa.mk (ST.out.call di hb hk); clear di hb hk)
 go_loopg [4] 3 (fun kq v4 w' => ∃ (x : Int) (ns : List (List S26)) (un : Value), v4 = .int .i64 x ∧ qa (0 ≤ x ∧ x ≤ kq ∧ ns.length + x ≤ 3 ∧ ∀ r ∈ ns, RelMade r) ∧ qa (NSt w0 w g g2 g3 w' (fun _ => True) un ns))
 case atStart => exact ⟨x0, [], _, rfl, ⟨hx0, by omega, by simp; omega, fun r h => by cases h⟩, ST⟩
 case round =>
  clear ST hx0 hx1
  obtain ⟨x, ns, un, rfl, hx, ST⟩ := hrel
  by_cases cx : x > 0
  ·have cxb : decide (x > 0) = true := decide_eq_true cx
   have CX := qa.mk cx
   clear cx
   obtain ⟨k1, rfl⟩ : ∃ k1, gk = k1 + 1 := ⟨gk - 1, by have := hx.out.2.1; have := CX.out; omega⟩
   go_wp2_with (go_at_call 14; refine (next_weak g 5 (by omega) (by omega) w0 _ ST.out.di ST.out.b).mono ?_; rintro e W3 ⟨y0, rfl, hy0, hy1, di, hb, hk⟩; replace ST := qa.mk (ST.out.call di hb hk); clear di hb hk)
   go_loopg [5, 6] 2 (fun kq v5 v6 w' => ∃ (r : List S26) (y : Int), v6 = .int .i64 y ∧ qa (RI r y ∧ y ≤ kq) ∧ qa (NSt w0 w g g2 g3 w' (fun k => some k ≠ v5.ownBlock) un ns) ∧ qa (Kd.R k26 26 w' w.heap.size (fun _ => True) v5 r))
   case atStart => exact ⟨[], _, rfl, ⟨.inl ⟨rfl, by omega, by omega⟩, by omega⟩, ⟨ST.out.mono (fun k _ _ _ => by simp [Value.ownBlock])⟩, ⟨Kd.R_nil _ _ _ _ _⟩⟩
   case round =>
    clear ST hy0 hy1
    obtain ⟨r, y, rfl, hy, ST, HR⟩ := hrel
    by_cases cy : y > 0
    ·have cyb : decide (y > 0) = true := decide_eq_true cy
     have CY := qa.mk cy
     clear cy
     obtain ⟨k2, rfl⟩ : ∃ k2, gk = k2 + 1 := ⟨gk - 1, by have := hy.out.2; have := CY.out; omega⟩
     obtain ⟨A5, c5, rfl⟩ := Kd.kj HR.out
     go_wp2_with (go_at_call 22; refine (attr_weak g w0 _ ST.out.di ST.out.b).mono ?_; rintro e W4 ⟨a, ha, rfl, di, hb, hk⟩; replace HR := qa.mk (row_call ST.out.di HR.out hk); replace ST := qa.mk (ST.out.call di hb hk); clear di hb hk)
     obtain ⟨W5, hW5⟩ : ∃ W, W = W4.alloc (Obj.cells #[Value.string a.f0, Value.int IntKind.i64 a.f1, Value.string a.f2] 26) := ⟨_, rfl⟩
     rw [← hW5]
     have hb5 : Below W4.heap.size W4 W5 := by rw [hW5]; exact qc (Below.refl _ _) _
     have BA := qa.mk (show W5.heap[W4.heap.size]? = some (.cells #[.string a.f0, .int .i64 a.f1, .string a.f2] 26 (0, 0)) by rw [hW5]; exact heap_alloc_new _ _)
     have GA := qa.mk (show w.heap.size ≤ W4.heap.size from ST.out.k.1)
     replace ST := qa.mk (ST.out.below hb5)
     replace HR := qa.mk (Kd.xt (Kd.R_elderB HR.out W4.heap.size (Nat.le_refl _)) hb5)
     clear hW5 hb5
     generalize W4.heap.size = gA at BA GA HR ⊢
     have z0 : W5.cell? ⟨gA, 0, none⟩ = some (.string a.f0) := (qf BA.out 0).trans rfl
     have z1 : W5.cell? ⟨gA, 1, none⟩ = some (.int .i64 a.f1) := (qf BA.out 1).trans rfl
     have z2 : W5.cell? ⟨gA, 2, none⟩ = some (.string a.f2) := (qf BA.out 2).trans rfl
     rcases hy.out.1 with ⟨rfl, h1, h2⟩ | ⟨a0, ha0, rfl, h1, h2⟩ | ⟨a0, b0, _, _, _, _, h1⟩
     ·go_quiet (fail)
      replace ST := qa.mk (ST.out.below (qb (Below.refl _ _) nq))
      replace HR := qa.mk (Kd.q3 HR.out nq)
      replace BA := qa.mk (qh BA.out nq)
      clear z0 z1 z2
      generalize W5.drewN nq = W6 at ST HR BA ⊢
      have z0 : W6.cell? ⟨gA, 0, none⟩ = some (.string a.f0) := (qf BA.out 0).trans rfl
      have z1 : W6.cell? ⟨gA, 1, none⟩ = some (.int .i64 a.f1) := (qf BA.out 1).trans rfl
      have z2 : W6.cell? ⟨gA, 2, none⟩ = some (.string a.f2) := (qf BA.out 2).trans rfl
      go_wp2_with ((with_reducible refine ze (N := 40) rfl ?_); refine Kd.x2 k26 (w0 := W6) (W := W6) w.heap.size rfl (.tmp 37) (.tmp 39) 27 26 (.agg #[(.string ⟨#[]⟩), (.int .i64 0), (.string ⟨#[]⟩)]) 40 rfl Tryd.underlying27 info26 rfl (by decide) (by omega) (.slice A5 ([] : List S26).length c5) [] a [.string a.f0, .int .i64 a.f1, .string a.f2] (fun k => True ∧ k ≠ gA) (fun _ => False) rfl (by first | (go_simp; done) | (go_simp; rfl)) (xy _ _ _ a) (fun _ hk => hk.elim) (fun k hk => ⟨trivial, by have := zk BA.out; omega⟩) HR.out (Below.refl _ _) ST.out.k.1 (by simp) ?_; intro v1 W7 ho hb hg ho'; have hS := qa.mk (((ST.out.mono (ok' := fun k => some k ≠ (Value.slice A5 ([] : List S26).length c5).ownBlock ∧ k < W6.heap.size) (fun k _ h2 h3 => ⟨h3, h2⟩)).grown hg hb (Kd.R_base HR.out) (Kd.R_ne HR.out ST.out.b2 (by decide)) (Kd.R_ne HR.out ST.out.b3 (by decide)) (fun _ h => h.1)).mono (ok' := fun k => some k ≠ v1.ownBlock) (fun k _ _ h3 => ne_new ho' h3)); clear ST; have ST := hS; clear hS; have HR7 := qa.mk (Kd.xh (ok' := fun _ => True) ho (fun _ _ => trivial)); clear HR; have HR := HR7; clear HR7 ho hb hg ho' z0 z1 z2 BA)
      go_roundg k2
      case measure => omega
      case rel => exact ⟨_, _, by first | rfl | simp, ⟨.inr (.inl ⟨a, ha, rfl, by have := h1; omega, by have := h2; omega⟩), by have := hy.out.2; omega⟩, ST, HR⟩
     ·have hc1 := (Kd.xw HR.out).2.2
      obtain ⟨ad, rfl, hx0, hx1, hx2⟩ := at_T26 hc1 0 (by omega) (by simp)
      have e0 : ad.add 0 = ad := by
       obtain ⟨b, o, s⟩ := ad
       cases s <;> simp [Addr.add]
      replace hx0 : W5.cell? (ad.add 0) = some (.string a0.f0) := hx0
      rw [e0] at hx0
      clear hx1 hx2
      by_cases ct : a0.f0.toList = a.f0.toList
      ·have ctb : (a0.f0.toList == a.f0.toList) = true := beq_iff_eq.mpr ct
       have ctc : (a0.f0.toList != a.f0.toList) = false := bne_eq_false_iff_eq.mpr ct
       clear ct
       go_quiet (fail)
       go_wp2
       go_roundg k2
       case measure => omega
       case rel => exact ⟨_, _, by first | rfl | simp, ⟨.inr (.inl ⟨a0, ha0, rfl, by have := CY.out; omega, by omega⟩), by have := hy.out.2; omega⟩, ⟨ST.out.below (qb (Below.refl _ _) nq)⟩, ⟨Kd.xh (Kd.q3 HR.out nq) (fun _ _ => trivial)⟩⟩
      ·have ctb : (a0.f0.toList == a.f0.toList) = false := beq_eq_false_iff_ne.mpr ct
       have ctc : (a0.f0.toList != a.f0.toList) = true := bne_iff_ne.mpr ct
       have CT := qa.mk ct
       clear ct
       go_quiet (fail)
       clear hx0
       replace ST := qa.mk (ST.out.below (qb (Below.refl _ _) nq))
       replace HR := qa.mk (Kd.q3 HR.out nq)
       replace BA := qa.mk (qh BA.out nq)
       clear z0 z1 z2
       generalize W5.drewN nq = W6 at ST HR BA ⊢
       have z0 : W6.cell? ⟨gA, 0, none⟩ = some (.string a.f0) := (qf BA.out 0).trans rfl
       have z1 : W6.cell? ⟨gA, 1, none⟩ = some (.int .i64 a.f1) := (qf BA.out 1).trans rfl
       have z2 : W6.cell? ⟨gA, 2, none⟩ = some (.string a.f2) := (qf BA.out 2).trans rfl
       go_wp2_with ((with_reducible refine ze (N := 40) rfl ?_); refine Kd.x2 k26 (w0 := W6) (W := W6) w.heap.size rfl (.tmp 37) (.tmp 39) 27 26 (.agg #[(.string ⟨#[]⟩), (.int .i64 0), (.string ⟨#[]⟩)]) 40 rfl Tryd.underlying27 info26 rfl (by decide) (by omega) (.slice (some ad) ([a0] : List S26).length c5) [a0] a [.string a.f0, .int .i64 a.f1, .string a.f2] (fun k => True ∧ k ≠ gA) (fun _ => False) rfl (by first | (go_simp; done) | (go_simp; rfl)) (xy _ _ _ a) (fun _ hk => hk.elim) (fun k hk => ⟨trivial, by have := zk BA.out; omega⟩) HR.out (Below.refl _ _) ST.out.k.1 (by simp) ?_; intro v1 W7 ho hb hg ho'; have hS := qa.mk (((ST.out.mono (ok' := fun k => some k ≠ (Value.slice (some ad) ([a0] : List S26).length c5).ownBlock ∧ k < W6.heap.size) (fun k _ h2 h3 => ⟨h3, h2⟩)).grown hg hb (Kd.R_base HR.out) (Kd.R_ne HR.out ST.out.b2 (by decide)) (Kd.R_ne HR.out ST.out.b3 (by decide)) (fun _ h => h.1)).mono (ok' := fun k => some k ≠ v1.ownBlock) (fun k _ _ h3 => ne_new ho' h3)); clear ST; have ST := hS; clear hS; have HR7 := qa.mk (Kd.xh (ok' := fun _ => True) ho (fun _ _ => trivial)); clear HR; have HR := HR7; clear HR7 ho hb hg ho' z0 z1 z2 BA)
       go_roundg k2
       case measure => omega
       case rel => exact ⟨_, _, by first | rfl | simp, ⟨.inr (.inr ⟨a0, a, ha0, ha, CT.out, rfl, by have := CY.out; omega⟩), by have := hy.out.2; omega⟩, ST, HR⟩
     ·exact absurd h1 (by have := CY.out; omega)
    ·have cyb : decide (y > 0) = false := decide_eq_false cy
     have hdone := qa.mk (RI.done hy.out.1 cy)
     clear cy
     obtain ⟨A5, c5, rfl⟩ := Kd.kj HR.out
     obtain ⟨An, cn, rfl⟩ := Kd.xz ST.out.s
     have hcz : wr.cell? ⟨g3, 0, none⟩ = some (.slice An ns.length cn) := (qf ST.out.b3 0).trans rfl
     have hfz := ql ST.out.b3 0
     have LM := qa.mk (show (ns.length + 1) * 24 ≤ 140737488355328 by have := hx.out.2.2.1; have := CX.out; omega)
     go_wp2_with ((with_reducible refine ze (N := 45) rfl ?_); refine Kd.S_append (Kd.slice 26 k26) (w0 := wr) (W := wr) w.heap.size rfl (.tmp 42) (.tmp 44) 22 27 (.slice none 0 0) 24 rfl Tryd.underlying22 info27 rfl (by decide) (by omega) (.slice An ns.length cn) ns r [.slice A5 r.length c5] (fun _ => True) (fun k_ => some k_ = (.slice A5 r.length c5 : Value).ownBlock) rfl rfl (Kd.M_row (Kd.xh (Kd.R_tight rfl HR.out) (fun _ h => h))) (fun k_ hk_ => (Kd.xh (ok' := fun k_ => True ∧ some k_ ≠ (Value.slice An ns.length cn).ownBlock) (Kd.R_apart' HR.out (Kd.S_typed ST.out.s) (by decide)) (fun k hk => ⟨trivial, hk.2⟩)).1 k_ hk_.symm) (fun _ _ => trivial) (Kd.xo ST.out.s (fun k_ hk => ⟨trivial, hk⟩)) (Below.refl _ _) ST.out.k.1 LM.out ?_; intro v1 W7 ho hb hg ho'; obtain ⟨ns1, hns1⟩ : ∃ x, x = ns ++ [r] := ⟨_, rfl⟩; rw [← hns1] at ho; obtain ⟨A1, c1, rfl⟩ := Kd.xz ho; have NS1 := qa.mk hns1; clear hns1; have hcz7 : W7.cell? ⟨g3, 0, none⟩ = some (.slice An ns.length cn) := (qf (kc ST.out.b3 hg (Kd.S_ne ST.out.s ST.out.b3 (by decide))) 0).trans rfl; have hfz7 := ql (kc ST.out.b3 hg (Kd.S_ne ST.out.s ST.out.b3 (by decide))) 0; have hS := qa.mk (ST.out.push hg hb ho G23.out); clear ST hcz hfz ho hb hg ho'; have ST := hS; clear hS)
     go_roundg k1
     case measure => omega
     case rel =>
      have e1 : wrap64 (x - 1) = x - 1 := by have h1 := hx.out.1; have h2 := hx.out.2.1; have h3 := hx.out.2.2.1; unfold wrap64; omega
      refine ⟨x - 1, ns1, _, by first | rfl | rw [e1], ⟨by have := CX.out; omega, by have := hx.out.2.1; omega, by rw [NS1.out, List.length_append]; have := hx.out.2.2.1; simp; omega, fun q hq => ?_⟩, ST⟩
      rw [NS1.out] at hq
      rcases List.mem_append.1 hq with hq | hq
      ·exact hx.out.2.2.2 q hq
      ·obtain rfl := List.mem_singleton.1 hq
       exact hdone.out
  ·have cxb : decide (x > 0) = false := decide_eq_false cx
   have CX := qa.mk cx
   clear cx
   obtain ⟨An, cn, rfl⟩ := Kd.xz ST.out.s
   have hcz : wr.cell? ⟨g3, 0, none⟩ = some (.slice An ns.length cn) := (qf ST.out.b3 0).trans rfl
   have hcz2 : wr.cell? ⟨g2, 0, none⟩ = some (.slice none 0 0) := (qf ST.out.b2 0).trans rfl
   have hfz2 := ql ST.out.b2 0
   go_wp2
   refine bodyPost_ret (results_cell_row rfl _ _ g2 24 #[.slice An ns.length cn] (0, 0) _ rfl (zl ST.out.b2 0 _ rfl) Tryd.underlying24 rfl (by kernel_rfl)) rfl ?_
   have hgw := hg.out
   have h2 := ST.out.h2
   refine ⟨_, rfl, ns, by have := hx.out.2.2.1; have := hx.out.1; omega, hx.out.2.2.2, ?_, ST.out.di.far (by show g ≠ g2; omega) _, qe ST.out.b (Nat.le_trans hw.out h2), keep_far ST.out.k h2 _⟩
   exact Kd.xo (Kd.S_bound (Kd.S_set ST.out.s ST.out.b2 (by decide) 0 _)) (fun k hk => by have := hk.2.1; omega)
end Go.Proofs.YtjhlinifnjoefaaDoor.C
end
