/- Words, walks and plain laws that the claim rests on, gathered. -/
import Derived.Lib.ConvBytes
import Derived.Shelf.Strings.Builder1
import Derived.Shelf.Strings.Builder2
import Derived.Shelf.Strings.OnBuilder
import Derived.Shelf.Small.Bits
import Derived.Shelf.Small.Strs
import Derived.Shelf.Strconv.Itoa0
import Derived.Shelf.Strings.Search1
import Derived.Shelf.Strings.Search2
import Derived.Shelf.Strings.Search3
import Derived.Shelf.Strings.Cut
import Derived.Shelf.Strings.Count
import Derived.Shelf.LaysM
import Derived.Shelf.Strings.Shaped
import Derived.Shelf.Sort.Plain
import Derived.Shelf.Strings.Prefix
import Derived.Shelf.Strings.Split
import Derived.Shelf.Strings.SplitShaped
import Derived.Shelf.Unicode.DecodeSlow
import Derived.Shelf.Slices.In.SortNone
import Derived.Shelf.Slices.In.SortNone2
import Derived.Test.YthdoohfdminfgaaGreatDoorProg
import Derived.Below
import Derived.Deep.Draws
import Derived.Deep.AppendLies
import Derived.Maps.AppendAt
import Derived.OwnWalk
import Derived.Laws.BytesArg
import Derived.Laws.MakeOwn
import Derived.Laws.OwnMore
import Derived.Deep.OwnRows
import Derived.Tactics
import Derived.Laws.Slices
import Derived.WalkKit
import Derived.KernelRfl
import Derived.RowKit3
import Derived.Deep.LoopGhost
import Derived.Deep.QuietTactic
import Derived.BigQuiet
import Derived.WideLaws
import Derived.Deep.DeepCutAuto
import Derived.Deep.CutBlock
import Derived.Deep.RegionHeld3
import Derived.Laws.Rows
import Derived.Lib.AppendStr
import Derived.ArgAppend
import Derived.Laws.IdiomCopy
import Derived.RowKit
import Derived.WalkSpells
import Derived.OrdersHeld
import Derived.Laws.BitsLemmas
import Derived.WalkLawsBesides
import Derived.Laws.StructEq
import Derived.Lib.SplitLaws
import Derived.Deep.Slices
import Derived.Deep.Strs
import Derived.ChangeSame
import Derived.WideShapes
import Derived.Test.YthdoohfdminfgaaGreatDoorNC0
import Derived.Test.YthdoohfdminfgaaGreatDoorNC1
import Derived.Test.YthdoohfdminfgaaGreatDoorNC2
import Derived.Test.YthdoohfdminfgaaGreatDoorNC3
import Derived.Test.YthdoohfdminfgaaGreatDoorNC4
import Derived.Test.YthdoohfdminfgaaGreatDoorNC5
import Derived.Test.YthdoohfdminfgaaGreatDoorNC6
import Derived.Test.YthdoohfdminfgaaGreatDoorNC7
import Derived.Test.YthdoohfdminfgaaGreatDoorNC8
import Derived.Test.YthdoohfdminfgaaGreatDoorNC9
import Derived.Test.YthdoohfdminfgaaGreatDoorNC10
import Derived.Test.YthdoohfdminfgaaGreatDoorNC11
import Derived.Test.YthdoohfdminfgaaGreatDoorNC12
import Derived.Test.YthdoohfdminfgaaGreatDoorNC13
import Derived.Test.YthdoohfdminfgaaGreatDoorNC14
import Derived.Test.YthdoohfdminfgaaGreatDoorNC15
import Derived.Test.YthdoohfdminfgaaGreatDoorNC16
import Derived.Test.YthdoohfdminfgaaGreatDoorNCc
namespace Go.Proofs.YthdoohfdminfgaaGreatDoorW.PrintLast
end Go.Proofs.YthdoohfdminfgaaGreatDoorW.PrintLast
namespace Go.Proofs.YthdoohfdminfgaaGreatDoorW.PrintMore
end Go.Proofs.YthdoohfdminfgaaGreatDoorW.PrintMore
namespace Go.Proofs.YthdoohfdminfgaaGreatDoorW.PrintWords
end Go.Proofs.YthdoohfdminfgaaGreatDoorW.PrintWords
section
namespace Go.Proofs.YthdoohfdminfgaaGreatDoor.C
open Go.RowKit Go.Proofs.YthdoohfdminfgaaGreatDoorW.PrintWords Go.Proofs.YthdoohfdminfgaaGreatDoorW.PrintLast Go.Proofs.YthdoohfdminfgaaGreatDoorW.PrintMore
attribute [local go_sem] kc xy kr ks xh xg xz xx
set_option linter.unusedVariables false
set_option linter.unusedSimpArgs false
def DK (w0 W : World) (g : Nat) : Prop := ∃ (L : List Int) (At : Int), xd w0 W g L At ∧ 0 ≤ At ∧ At ≤ L.length ∧ L.length ≤ 140737488351232
theorem DK.below {w0 W W1 : World} {g : Nat} (h : DK w0 W g) (hb : Below W.heap.size W W1) : DK w0 W1 g := let ⟨L, At, hi, h⟩ := h; ⟨L, At, xd.below hi hb, h⟩
theorem DK.ge {w0 W : World} {g : Nat} (h : DK w0 W g) : w0.heap.size ≤ g := let ⟨L, At, hi, h⟩ := h; xd.ge hi
theorem DK.lt {w0 W : World} {g : Nat} (h : DK w0 W g) : g < W.heap.size := let ⟨L, At, hi, h⟩ := h; xd.lt hi
theorem DK.blk {w0 W : World} {g : Nat} (h : DK w0 W g) : ∃ cs, W.heap[g]? = some (.cells cs 54 (0, 0)) := let ⟨L, At, ⟨A0, c0, hb, _⟩, h⟩ := h; ⟨_, hb⟩
theorem DK.grown {w0 W W1 : World} {g : Nat} {row : Option Nat} (h : DK w0 W g) (hw : W.grownBy W1 row) (hne : some g ≠ row) : DK w0 W1 g := let ⟨L, At, hi, h⟩ := h; ⟨L, At, xd.grown hi hw hne, h⟩
theorem DK.far {w0 W : World} {g : Nat} (h : DK w0 W g) {p : Addr} (hne : g ≠ p.block) (u : Value) : DK w0 (W.setCell p u) g := let ⟨L, At, hi, h⟩ := h; ⟨L, At, xd.far hi hne u, h⟩
theorem tmod_in (x a : Int) (h : 0 < a) (h1 : a ≤ 1000) : ∃ r, Int.tmod (wrap64 (Int.tmod x a + a)) a = r ∧ 0 ≤ r ∧ r < a := by
 have h2 := Int.tmod_lt_of_pos x h
 have h3 : -a < Int.tmod x a := by
  have h4 := Int.neg_tmod x a
  have h5 := Int.tmod_lt_of_pos (-x) h
  rw [h4] at h5
  omega
 have h6 : wrap64 (Int.tmod x a + a) = Int.tmod x a + a := by unfold wrap64; omega
 exact ⟨_, rfl, by rw [h6]; exact Int.tmod_nonneg _ yg, Int.tmod_lt_of_pos _ h⟩
theorem next_f (L : List Int) (At a : Int) (h : 0 ≤ At) (h1 : At ≤ L.length) (hL : L.length ≤ 140737488351232) (ha : 0 < a) (ha1 : a ≤ 1000) :
  ∃ r At', kw.f L At a = some (r, At') ∧ 0 ≤ r ∧ r < a ∧ 0 ≤ At' ∧ At' ≤ L.length := by
 unfold kw.f
 by_cases c : At ≥ (L.length : Int)
 ·exact ⟨0, At, if_pos c, by omega, ha, h, h1⟩
 ·have e1 : wrap64 (At + 1) = At + 1 := by unfold wrap64; omega
  have e2 : wrap64 (wrap64 (At + 1) - 1) = At := by rw [e1]; unfold wrap64; omega
  rw [if_neg c, e2, e1, if_pos h, if_pos yg, if_neg yg]
  obtain ⟨r, hr, h2, h3⟩ := tmod_in (rd L At) a ha ha1
  exact ⟨r, At + 1, by rw [hr], h2, h3, by omega, by omega⟩
theorem next_weak (g : Nat) (a : Int) (ha : 0 < a) (ha1 : a ≤ 1000) (w0 w : World) (hI : DK w0 w g) (hB : Below w0.heap.size w0 w) :
  Calls Tryz.prog 18 #[.pointer (some ⟨g, 0, none⟩), .int .i64 a] w fun e w' => ∃ r, e = .returned (.int .i64 r) ∧ 0 ≤ r ∧ r < a ∧ DK w0 w' g ∧ Below w0.heap.size w0 w' ∧ KeepBut w w' g none := by
 obtain ⟨L, At, hi, h, h1, hL⟩ := hI
 obtain ⟨r, At', hf, h2, h3, h4, h5⟩ := next_f L At a h h1 hL ha ha1
 refine (kw.calls g L At a r At' w0 w hi hB hf).mono ?_
 rintro e w' ⟨rfl, hi', hb, hk⟩
 exact ⟨r, rfl, h2, h3, ⟨L, At', hi', h4, h5, hL⟩, hb, hk⟩
def made12 : List S40 := ([(⟨(⟨#[50, 46, 53, 46, 52, 46, 51]⟩ : ByteArray), 12, (⟨#[65, 110, 110]⟩ : ByteArray)⟩ : S40), (⟨(⟨#[50, 46, 53, 46, 52, 46, 51]⟩ : ByteArray), 19, (⟨#[32, 97, 110, 110]⟩ : ByteArray)⟩ : S40), (⟨(⟨#[50, 46, 53, 46, 52, 46, 51]⟩ : ByteArray), 12, (⟨#[103, 114, 195, 182, 195, 159, 101]⟩ : ByteArray)⟩ : S40), (⟨(⟨#[50, 46, 53, 46, 52, 46, 54]⟩ : ByteArray), 19, (⟨#[85, 83]⟩ : ByteArray)⟩ : S40), (⟨(⟨#[50, 46, 53, 46, 52, 46, 49, 48]⟩ : ByteArray), 19, (⟨#[69, 120, 97, 109, 112, 108, 101, 32, 32, 67, 111, 114, 112]⟩ : ByteArray)⟩ : S40), (⟨(⟨#[50, 46, 53, 46, 52, 46, 49, 48]⟩ : ByteArray), 12, (⟨#[101, 120, 97, 109, 112, 108, 101, 32, 99, 111, 114, 112]⟩ : ByteArray)⟩ : S40), (⟨(⟨#[50, 46, 53, 46, 52, 46, 49, 49]⟩ : ByteArray), 22, (⟨#[97, 44, 98, 43, 99, 61, 100, 92, 101]⟩ : ByteArray)⟩ : S40), (⟨(⟨#[48, 46, 57, 46, 50, 51, 52, 50, 46, 49, 57, 50, 48, 48, 51, 48, 48, 46, 49, 48, 48, 46, 49, 46, 50, 53]⟩ : ByteArray), 22, (⟨#[111, 114, 103]⟩ : ByteArray)⟩ : S40), (⟨(⟨#[49, 46, 50, 46, 56, 52, 48, 46, 49, 49, 51, 53, 52, 57, 46, 49, 46, 57, 46, 49]⟩ : ByteArray), 22, (⟨#[97, 110, 110, 64, 101, 120, 97, 109, 112, 108, 101, 46, 111, 114, 103]⟩ : ByteArray)⟩ : S40), (⟨(⟨#[49, 46, 50, 46, 56, 52, 48, 46, 49, 49, 51, 53, 52, 57, 46, 49, 46, 57, 46, 49]⟩ : ByteArray), 22, (⟨#[110, 111, 32, 97, 100, 100, 114, 101, 115, 115]⟩ : ByteArray)⟩ : S40), (⟨(⟨#[50, 46, 53, 46, 52, 46, 57, 57]⟩ : ByteArray), 19, (⟨#[120]⟩ : ByteArray)⟩ : S40), (⟨(⟨#[50, 46, 53, 46, 52, 46, 55]⟩ : ByteArray), 12, (⟨#[76]⟩ : ByteArray)⟩ : S40)] : List (S40))
theorem attr_weak (g : Nat) (w0 w : World) (hI : DK w0 w g) (hB : Below w0.heap.size w0 w) :
  Calls Tryz.prog 34 #[.pointer (some ⟨g, 0, none⟩)] w fun e w' => ∃ a, a ∈ made12 ∧ e = .returned (.agg #[.string a.f0, .int .i64 a.f1, .string a.f2]) ∧ DK w0 w' g ∧ Below w0.heap.size w0 w' ∧ KeepBut w w' g none := by
 obtain ⟨L, At, hi, h, h1, hL⟩ := hI
 obtain ⟨r, At', hf, h2, h3, h4, h5⟩ := next_f L At 12 h h1 hL yg yg
 have hm : made12.length = 12 := by kernel_rfl
 have hr : qk made12 r ∈ made12 := by
  unfold qk
  rw [List.getD_eq_getElem?_getD, List.getElem?_eq_getElem yg]
  exact List.getElem_mem yg
 refine (certpathmade_attribute.calls g L At (qk made12 r).f0 (qk made12 r).f1 (qk made12 r).f2 At' w0 w hi hB ?_).mono ?_
 ·show Option.bind (some made12) _ = _
  rw [Option.bind_some, hf, Option.bind_some, if_pos h2, if_pos (by show r < ((made12.length : Nat) : Int); rw [hm]; omega)]
 ·rintro e w' ⟨rfl, hi', hb, hk⟩
  exact ⟨_, hr, rfl, ⟨L, At', hi', h4, h5, hL⟩, hb, hk⟩
def RI (r : List S40) (y : Int) : Prop := (r = [] ∧ 1 ≤ y ∧ y ≤ 2) ∨ (∃ a, a ∈ made12 ∧ r = [a] ∧ 0 ≤ y ∧ y ≤ 1) ∨ (∃ a b, a ∈ made12 ∧ b ∈ made12 ∧ a.f0.toList ≠ b.f0.toList ∧ r = [a, b] ∧ y = 0)
def RelMade (r : List S40) : Prop := (∃ a, a ∈ made12 ∧ r = [a]) ∨ (∃ a b, a ∈ made12 ∧ b ∈ made12 ∧ a.f0.toList ≠ b.f0.toList ∧ r = [a, b])
theorem RI.done {r : List S40} {y : Int} (h : RI r y) (hy : ¬ y > 0) : RelMade r := by
 rcases h with ⟨rfl, h, _⟩ | ⟨a, ha, rfl, _⟩ | ⟨a, b, ha, hb, hn, rfl, _⟩
 ·omega
 ·exact .inl ⟨a, ha, rfl⟩
 ·exact .inr ⟨a, b, ha, hb, hn, rfl⟩
structure NSt (w0 w : World) (g g2 g3 : Nat) (W : World) (ok : Nat → Prop) (un : Value) (ns : List (List S40)) : Prop where
 di : DK w0 W g
 b : Below w0.heap.size w0 W
 k : KeepBut w W g none
 b2 : W.heap[g2]? = some (.cells #[.slice none 0 0] 31 (0, 0))
 b3 : W.heap[g3]? = some (.cells #[un] 31 (0, 0))
 s : Kd.S (Kd.slice 40 k40) 42 W w.heap.size ok un ns
 h2 : w.heap.size ≤ g2
 h3 : w.heap.size ≤ g3
 hg : g < w.heap.size
 hw : w0.heap.size ≤ w.heap.size
section
variable {w0 w : World} {g g2 g3 : Nat} {W W' : World} {ok ok' : Nat → Prop} {un : Value} {ns : List (List S40)}
theorem NSt.below (h : NSt w0 w g g2 g3 W ok un ns) (hb : Below W.heap.size W W') : NSt w0 w g g2 g3 W' ok un ns :=
 ⟨h.di.below hb, qm h.b hb, KeepBut.trans h.k (KeepBut.of_below hb g none) (.inl rfl), q8 h.b2 hb, q8 h.b3 hb, Kd.k5 h.s hb, h.h2, h.h3, h.hg, h.hw⟩
theorem NSt.mono (h : NSt w0 w g g2 g3 W ok un ns) (hok : ∀ k, w.heap.size ≤ k → k < W.heap.size → ok k → ok' k) : NSt w0 w g g2 g3 W ok' un ns :=
 ⟨h.di, h.b, h.k, h.b2, h.b3, Kd.jc (Kd.S_bound h.s) (fun k hk => hok k hk.2.1 hk.2.2.1 hk.1), h.h2, h.h3, h.hg, h.hw⟩
theorem NSt.call (h : NSt w0 w g g2 g3 W ok un ns) (hd : DK w0 W' g) (hb : Below w0.heap.size w0 W') (hk : KeepBut W W' g none) : NSt w0 w g g2 g3 W' ok un ns := by
 obtain ⟨L, At, hi, _⟩ := h.di
 refine ⟨hd, hb, KeepBut.trans h.k hk (.inl rfl), KeepBut.blk hk h.b2 (by have := h.h2; have := h.hg; omega) uf, KeepBut.blk hk h.b3 (by have := h.h3; have := h.hg; omega) uf, ?_, h.h2, h.h3, h.hg, h.hw⟩
 exact Kd.jc (Kd.S_keep (xd.apartS hi h.s (by decide)) hk (fun _ hk => hk.2)) (fun _ hk => hk.1)
theorem keep_grown {row : Option Nat} (h : KeepBut w W g none) (hg : W.grownBy W' row) (hr : ∀ k, row = some k → w.heap.size ≤ k) : KeepBut w W' g none :=
 KeepBut.trans h (KeepBut.of_grown hg g) (by
  cases row with
  | none => exact .inl rfl
  | some k => exact .inr ⟨k, rfl, hr k rfl⟩)
theorem NSt.grown {row : Option Nat} (h : NSt w0 w g g2 g3 W ok un ns) (hg : W.grownBy W' row) (hb : Below w.heap.size W W') (hr : ∀ k, row = some k → w.heap.size ≤ k) (h2 : some g2 ≠ row) (h3 : some g3 ≠ row) (hok : ∀ k, ok k → some k ≠ row) :
  NSt w0 w g g2 g3 W' ok un ns :=
 ⟨h.di.grown hg (fun e => by have := hr g e.symm; have := h.hg; omega), h.b.trans (hb.mono h.hw), keep_grown h.k hg hr, ja h.b2 hg h2, ja h.b3 hg h3, Kd.S_grown h.s hg hok, h.h2, h.h3, h.hg, h.hw⟩
theorem NSt.push (h : NSt w0 w g g2 g3 W ok un ns) {v1 : Value} {ns' : List (List S40)} (hg : W.grownBy W' un.ownBlock) (hb : Below w.heap.size W W') (hs : Kd.S (Kd.slice 40 k40) 42 W' w.heap.size ok' v1 ns') (h23 : g2 ≠ g3) :
  NSt w0 w g g2 g3 (W'.setCell ⟨g3, 0, none⟩ v1) ok' v1 ns' := by
 have hr := Kd.S_base h.s
 have b3 := ja h.b3 hg (Kd.S_ne h.s h.b3 (by decide))
 refine ⟨(h.di.grown hg (fun e => by have := hr g e.symm; have := h.hg; omega)).far (by show g ≠ g3; have := h.hg; have := h.h3; omega) _, ?_, keep_far (keep_grown h.k hg hr) h.h3 _, ?_, z6 b3 0 v1 rfl, Kd.S_set hs b3 (by decide) 0 v1, h.h2, h.h3, h.hg, h.hw⟩
 ·exact qe (h.b.trans (hb.mono h.hw)) (Nat.le_trans h.hw h.h3)
 ·exact kt (ja h.b2 hg (Kd.S_ne h.s h.b2 (by decide))) h23 _
end
theorem ne_new {v v1 : Value} {n k : Nat} (ho : v1.ownBlock = v.ownBlock ∨ ∃ b, v1.ownBlock = some b ∧ n ≤ b) (h : some k ≠ v.ownBlock ∧ k < n) : some k ≠ v1.ownBlock := by
 rcases ho with e | ⟨b, e, hb⟩
 ·rw [e]; exact h.1
 ·rw [e]
  intro e2
  injection e2 with e2
  have := h.2
  omega
theorem row_call {w0 W W' : World} {g base : Nat} {u : Value} {r : List S40} (hd : DK w0 W g) (h : Kd.R k40 40 W base (fun _ => True) u r) (hk : KeepBut W W' g none) : Kd.R k40 40 W' base (fun _ => True) u r := by
 obtain ⟨L, At, hi, _⟩ := hd
 exact Kd.xn (Kd.R_keep (xd.apart hi h (by decide)) hk (fun _ hk => hk.2)) (fun _ hk => hk.1)
set_option maxHeartbeats 8000000 in
set_option maxRecDepth 100000 in
theorem name_weak (g : Nat) (w0 w : World) (hI : DK w0 w g) (hB : Below w0.heap.size w0 w) :
  Calls Tryz.prog 11 #[.pointer (some ⟨g, 0, none⟩)] w fun e w' => ∃ (v : Value) (n : List (List S40)), e = .returned (.agg #[v]) ∧ n.length ≤ 3 ∧ (∀ r ∈ n, RelMade r) ∧
   Kd.S (Kd.slice 40 k40) 42 w' w.heap.size (fun k => k ≠ g) v n ∧ DK w0 w' g ∧ Below w0.heap.size w0 w' ∧ KeepBut w w' g none := by
 have hu24 := Tryz.underlying31
 have hu26 := Tryz.underlying40
 have hg := qb.mk hI.lt
 have hw := qb.mk hB.size
 have HI := qb.mk hI
 have HB := qb.mk hB
 clear hI hB
 go_enter Tryz.func11, Tryz.ntmps11
 go_upto_region 2 with (fail)
 obtain ⟨W1, hW1⟩ : ∃ W, W = ((w.alloc (Obj.cells #[Value.slice none 0 0] 31)).alloc (Obj.cells #[Value.slice none 0 0] 31)) := ⟨_, rfl⟩
 rw [← hW1]
 have hb1 : Below w.heap.size w W1 := by rw [hW1]; exact qc (qc (Below.refl _ _) _) _
 have hb2 : W1.heap[w.heap.size]? = some (.cells #[.slice none 0 0] 31 (0, 0)) := by rw [hW1]; exact qf (heap_alloc_new w _) _
 have hb3 : W1.heap[w.heap.size + 1]? = some (.cells #[.slice none 0 0] 31 (0, 0)) := by rw [hW1]; simpa using heap_alloc_new (w.alloc (Obj.cells #[Value.slice none 0 0] 31)) (Obj.cells #[Value.slice none 0 0] 31)
 have ST : qb (NSt w0 w g w.heap.size (w.heap.size + 1) W1 (fun _ => True) (.slice none 0 0) []) := ⟨HI.out.below hb1, qm HB.out hb1, KeepBut.of_below hb1 g none, hb2, hb3, Kd.S_nil _ _ _ _ _, Nat.le_refl _, Nat.le_succ _, hg.out, hw.out⟩
 clear hW1 hb1 hb2 hb3
 have G23 := qb.mk (show w.heap.size ≠ w.heap.size + 1 by omega)
 generalize w.heap.size + 1 = g3 at ST G23 ⊢
 obtain ⟨g2, hg2⟩ : ∃ x, x = w.heap.size := ⟨_, rfl⟩
 rw [← hg2] at ST G23 ⊢
 clear hg2
 go_wp2_with (go_at_call 18; refine (next_weak g 4 yg yg w0 _ ST.out.di ST.out.b).mono ?_; rintro e W2 ⟨x0, rfl, hx0, hx1, di, hb, hk⟩; replace ST := qb.mk (ST.out.call di hb hk); clear di hb hk)
 go_loopg [4] 3 (fun kq v4 w' => ∃ (x : Int) (ns : List (List S40)) (un : Value), v4 = .int .i64 x ∧ qb (0 ≤ x ∧ x ≤ kq ∧ ns.length + x ≤ 3 ∧ ∀ r ∈ ns, RelMade r) ∧ qb (NSt w0 w g g2 g3 w' (fun _ => True) un ns))
 case atStart => exact ⟨x0, [], _, rfl, ⟨hx0, by omega, by simp; omega, fun r h => by cases h⟩, ST⟩
 case round =>
  clear ST hx0 hx1
  obtain ⟨x, ns, un, rfl, hx, ST⟩ := hrel
  by_cases cx : x > 0
  ·have cxb : decide (x > 0) = true := decide_eq_true cx
   have CX := qb.mk cx
   clear cx
   obtain ⟨k1, rfl⟩ : ∃ k1, gk = k1 + 1 := ⟨gk - 1, by have := hx.out.2.1; have := CX.out; omega⟩
   go_wp2_with (go_at_call 18; refine (next_weak g 5 yg yg w0 _ ST.out.di ST.out.b).mono ?_; rintro e W3 ⟨y0, rfl, hy0, hy1, di, hb, hk⟩; replace ST := qb.mk (ST.out.call di hb hk); clear di hb hk)
   go_loopg [5, 6] 2 (fun kq v5 v6 w' => ∃ (r : List S40) (y : Int), v6 = .int .i64 y ∧ qb (RI r y ∧ y ≤ kq) ∧ qb (NSt w0 w g g2 g3 w' (fun k => some k ≠ v5.ownBlock) un ns) ∧ qb (Kd.R k40 40 w' w.heap.size (fun _ => True) v5 r))
   case atStart => exact ⟨[], _, rfl, ⟨.inl ⟨rfl, by omega, by omega⟩, by omega⟩, ⟨ST.out.mono (fun k _ _ _ => by simp [Value.ownBlock])⟩, ⟨Kd.jx _ _ _ _ _⟩⟩
   case round =>
    clear ST hy0 hy1
    obtain ⟨r, y, rfl, hy, ST, HR⟩ := hrel
    by_cases cy : y > 0
    ·have cyb : decide (y > 0) = true := decide_eq_true cy
     have CY := qb.mk cy
     clear cy
     obtain ⟨k2, rfl⟩ : ∃ k2, gk = k2 + 1 := ⟨gk - 1, by have := hy.out.2; have := CY.out; omega⟩
     obtain ⟨A5, c5, rfl⟩ := Kd.xo HR.out
     go_wp2_with (go_at_call 34; refine (attr_weak g w0 _ ST.out.di ST.out.b).mono ?_; rintro e W4 ⟨a, ha, rfl, di, hb, hk⟩; replace HR := qb.mk (row_call ST.out.di HR.out hk); replace ST := qb.mk (ST.out.call di hb hk); clear di hb hk)
     obtain ⟨W5, hW5⟩ : ∃ W, W = W4.alloc (Obj.cells #[Value.string a.f0, Value.int IntKind.i64 a.f1, Value.string a.f2] 40) := ⟨_, rfl⟩
     rw [← hW5]
     have hb5 : Below W4.heap.size W4 W5 := by rw [hW5]; exact qc (Below.refl _ _) _
     have BA := qb.mk (show W5.heap[W4.heap.size]? = some (.cells #[.string a.f0, .int .i64 a.f1, .string a.f2] 40 (0, 0)) by rw [hW5]; exact heap_alloc_new _ _)
     have GA := qb.mk (show w.heap.size ≤ W4.heap.size from ST.out.k.1)
     replace ST := qb.mk (ST.out.below hb5)
     replace HR := qb.mk (Kd.z8 (Kd.R_elderB HR.out W4.heap.size (Nat.le_refl _)) hb5)
     clear hW5 hb5
     generalize W4.heap.size = gA at BA GA HR ⊢
     have z0 : W5.cell? ⟨gA, 0, none⟩ = some (.string a.f0) := (qo BA.out 0).trans rfl
     have z1 : W5.cell? ⟨gA, 1, none⟩ = some (.int .i64 a.f1) := (qo BA.out 1).trans rfl
     have z2 : W5.cell? ⟨gA, 2, none⟩ = some (.string a.f2) := (qo BA.out 2).trans rfl
     rcases hy.out.1 with ⟨rfl, h1, h2⟩ | ⟨a0, ha0, rfl, h1, h2⟩ | ⟨a0, b0, _, _, _, _, h1⟩
     ·go_quiet (fail)
      replace ST := qb.mk (ST.out.below (qa (Below.refl _ _) nq))
      replace HR := qb.mk (Kd.qv HR.out nq)
      replace BA := qb.mk (qg BA.out nq)
      clear z0 z1 z2
      generalize W5.drewN nq = W6 at ST HR BA ⊢
      have z0 : W6.cell? ⟨gA, 0, none⟩ = some (.string a.f0) := (qo BA.out 0).trans rfl
      have z1 : W6.cell? ⟨gA, 1, none⟩ = some (.int .i64 a.f1) := (qo BA.out 1).trans rfl
      have z2 : W6.cell? ⟨gA, 2, none⟩ = some (.string a.f2) := (qo BA.out 2).trans rfl
      go_wp2_with ((with_reducible refine zm (N := 40) rfl ?_); refine Kd.k9 k40 (w0 := W6) (W := W6) w.heap.size rfl (.tmp 37) (.tmp 39) 42 40 (.agg #[(.string ⟨#[]⟩), (.int .i64 0), (.string ⟨#[]⟩)]) 40 rfl Tryz.underlying42 info40 rfl (by decide) yg (.slice A5 ([] : List S40).length c5) [] a [.string a.f0, .int .i64 a.f1, .string a.f2] (fun k => True ∧ k ≠ gA) (fun _ => False) rfl (by first | (go_simp; done) | (go_simp; rfl)) (k40_mkM _ _ _ a) (fun _ hk => hk.elim) (fun k hk => ⟨trivial, by have := xu BA.out; omega⟩) HR.out (Below.refl _ _) ST.out.k.1 uf ?_; intro v1 W7 ho hb hg ho'; have hS := qb.mk (((ST.out.mono (ok' := fun k => some k ≠ (Value.slice A5 ([] : List S40).length c5).ownBlock ∧ k < W6.heap.size) (fun k _ h2 h3 => ⟨h3, h2⟩)).grown hg hb (Kd.je HR.out) (Kd.R_ne HR.out ST.out.b2 (by decide)) (Kd.R_ne HR.out ST.out.b3 (by decide)) (fun _ h => h.1)).mono (ok' := fun k => some k ≠ v1.ownBlock) (fun k _ _ h3 => ne_new ho' h3)); clear ST; have ST := hS; clear hS; have HR7 := qb.mk (Kd.xn (ok' := fun _ => True) ho (fun _ _ => trivial)); clear HR; have HR := HR7; clear HR7 ho hb hg ho' z0 z1 z2 BA)
      go_roundg k2
      case measure => omega
      case rel => exact ⟨_, _, by first | rfl | simp, ⟨.inr (.inl ⟨a, ha, rfl, by have := h1; omega, by have := h2; omega⟩), by have := hy.out.2; omega⟩, ST, HR⟩
     ·have hc1 := (Kd.zq HR.out).2.2
      obtain ⟨ad, rfl, hx0, hx1, hx2⟩ := js hc1 0 yg uf
      have e0 : ad.add 0 = ad := by
       obtain ⟨b, o, s⟩ := ad
       cases s <;> simp [Addr.add]
      replace hx0 : W5.cell? (ad.add 0) = some (.string a0.f0) := hx0
      rw [e0] at hx0
      clear hx1 hx2
      by_cases ct : a0.f0.toList = a.f0.toList
      ·have ctb : (a0.f0.toList == a.f0.toList) = true := beq_iff_eq.mpr ct
       have ctc : (a0.f0.toList != a.f0.toList) = false := bne_eq_false_iff_eq.mpr ct
       clear ct
       go_quiet (fail)
       go_wp2
       go_roundg k2
       case measure => omega
       case rel => exact ⟨_, _, by first | rfl | simp, ⟨.inr (.inl ⟨a0, ha0, rfl, by have := CY.out; omega, by omega⟩), by have := hy.out.2; omega⟩, ⟨ST.out.below (qa (Below.refl _ _) nq)⟩, ⟨Kd.xn (Kd.qv HR.out nq) (fun _ _ => trivial)⟩⟩
      ·have ctb : (a0.f0.toList == a.f0.toList) = false := beq_eq_false_iff_ne.mpr ct
       have ctc : (a0.f0.toList != a.f0.toList) = true := bne_iff_ne.mpr ct
       have CT := qb.mk ct
       clear ct
       go_quiet (fail)
       clear hx0
       replace ST := qb.mk (ST.out.below (qa (Below.refl _ _) nq))
       replace HR := qb.mk (Kd.qv HR.out nq)
       replace BA := qb.mk (qg BA.out nq)
       clear z0 z1 z2
       generalize W5.drewN nq = W6 at ST HR BA ⊢
       have z0 : W6.cell? ⟨gA, 0, none⟩ = some (.string a.f0) := (qo BA.out 0).trans rfl
       have z1 : W6.cell? ⟨gA, 1, none⟩ = some (.int .i64 a.f1) := (qo BA.out 1).trans rfl
       have z2 : W6.cell? ⟨gA, 2, none⟩ = some (.string a.f2) := (qo BA.out 2).trans rfl
       go_wp2_with ((with_reducible refine zm (N := 40) rfl ?_); refine Kd.k9 k40 (w0 := W6) (W := W6) w.heap.size rfl (.tmp 37) (.tmp 39) 42 40 (.agg #[(.string ⟨#[]⟩), (.int .i64 0), (.string ⟨#[]⟩)]) 40 rfl Tryz.underlying42 info40 rfl (by decide) yg (.slice (some ad) ([a0] : List S40).length c5) [a0] a [.string a.f0, .int .i64 a.f1, .string a.f2] (fun k => True ∧ k ≠ gA) (fun _ => False) rfl (by first | (go_simp; done) | (go_simp; rfl)) (k40_mkM _ _ _ a) (fun _ hk => hk.elim) (fun k hk => ⟨trivial, by have := xu BA.out; omega⟩) HR.out (Below.refl _ _) ST.out.k.1 uf ?_; intro v1 W7 ho hb hg ho'; have hS := qb.mk (((ST.out.mono (ok' := fun k => some k ≠ (Value.slice (some ad) ([a0] : List S40).length c5).ownBlock ∧ k < W6.heap.size) (fun k _ h2 h3 => ⟨h3, h2⟩)).grown hg hb (Kd.je HR.out) (Kd.R_ne HR.out ST.out.b2 (by decide)) (Kd.R_ne HR.out ST.out.b3 (by decide)) (fun _ h => h.1)).mono (ok' := fun k => some k ≠ v1.ownBlock) (fun k _ _ h3 => ne_new ho' h3)); clear ST; have ST := hS; clear hS; have HR7 := qb.mk (Kd.xn (ok' := fun _ => True) ho (fun _ _ => trivial)); clear HR; have HR := HR7; clear HR7 ho hb hg ho' z0 z1 z2 BA)
       go_roundg k2
       case measure => omega
       case rel => exact ⟨_, _, by first | rfl | simp, ⟨.inr (.inr ⟨a0, a, ha0, ha, CT.out, rfl, by have := CY.out; omega⟩), by have := hy.out.2; omega⟩, ST, HR⟩
     ·exact absurd h1 (by have := CY.out; omega)
    ·have cyb : decide (y > 0) = false := decide_eq_false cy
     have hdone := qb.mk (RI.done hy.out.1 cy)
     clear cy
     obtain ⟨A5, c5, rfl⟩ := Kd.xo HR.out
     obtain ⟨An, cn, rfl⟩ := Kd.j5 ST.out.s
     have hcz : wr.cell? ⟨g3, 0, none⟩ = some (.slice An ns.length cn) := (qo ST.out.b3 0).trans rfl
     have hfz := qr ST.out.b3 0
     have LM := qb.mk (show (ns.length + 1) * 24 ≤ 140737488355328 by have := hx.out.2.2.1; have := CX.out; omega)
     go_wp2_with ((with_reducible refine zm (N := 45) rfl ?_); refine Kd.S_append (Kd.slice 40 k40) (w0 := wr) (W := wr) w.heap.size rfl (.tmp 42) (.tmp 44) 29 42 (.slice none 0 0) 24 rfl Tryz.underlying29 info42 rfl (by decide) yg (.slice An ns.length cn) ns r [.slice A5 r.length c5] (fun _ => True) (fun k_ => some k_ = (.slice A5 r.length c5 : Value).ownBlock) rfl rfl (Kd.M_row (Kd.xn (Kd.R_tight rfl HR.out) (fun _ h => h))) (fun k_ hk_ => (Kd.xn (ok' := fun k_ => True ∧ some k_ ≠ (Value.slice An ns.length cn).ownBlock) (Kd.R_apart' HR.out (Kd.S_typed ST.out.s) (by decide)) (fun k hk => ⟨trivial, hk.2⟩)).1 k_ hk_.symm) (fun _ _ => trivial) (Kd.jc ST.out.s (fun k_ hk => ⟨trivial, hk⟩)) (Below.refl _ _) ST.out.k.1 LM.out ?_; intro v1 W7 ho hb hg ho'; obtain ⟨ns1, hns1⟩ : ∃ x, x = ns ++ [r] := ⟨_, rfl⟩; rw [← hns1] at ho; obtain ⟨A1, c1, rfl⟩ := Kd.j5 ho; have NS1 := qb.mk hns1; clear hns1; have hcz7 : W7.cell? ⟨g3, 0, none⟩ = some (.slice An ns.length cn) := (qo (ja ST.out.b3 hg (Kd.S_ne ST.out.s ST.out.b3 (by decide))) 0).trans rfl; have hfz7 := qr (ja ST.out.b3 hg (Kd.S_ne ST.out.s ST.out.b3 (by decide))) 0; have hS := qb.mk (ST.out.push hg hb ho G23.out); clear ST hcz hfz ho hb hg ho'; have ST := hS; clear hS)
     go_roundg k1
     case measure => omega
     case rel =>
      have e1 : wrap64 (x - 1) = x - 1 := by have h1 := hx.out.1; have h2 := hx.out.2.1; have h3 := hx.out.2.2.1; unfold wrap64; omega
      refine ⟨x - 1, ns1, _, by first | rfl | rw [e1], ⟨by have := CX.out; omega, by have := hx.out.2.1; omega, by rw [NS1.out, List.length_append]; have := hx.out.2.2.1; simp; omega, fun q hq => ?_⟩, ST⟩
      rw [NS1.out] at hq
      rcases List.mem_append.1 hq with hq | hq
      ·exact hx.out.2.2.2 q hq
      ·obtain rfl := List.mem_singleton.1 hq
       exact hdone.out
  ·have cxb : decide (x > 0) = false := decide_eq_false cx
   have CX := qb.mk cx
   clear cx
   obtain ⟨An, cn, rfl⟩ := Kd.j5 ST.out.s
   have hcz : wr.cell? ⟨g3, 0, none⟩ = some (.slice An ns.length cn) := (qo ST.out.b3 0).trans rfl
   have hcz2 : wr.cell? ⟨g2, 0, none⟩ = some (.slice none 0 0) := (qo ST.out.b2 0).trans rfl
   have hfz2 := qr ST.out.b2 0
   go_wp2
   refine bodyPost_ret (results_cell_row rfl _ _ g2 31 #[.slice An ns.length cn] (0, 0) _ rfl (z6 ST.out.b2 0 _ rfl) Tryz.underlying31 rfl yh) rfl ?_
   have hgw := hg.out
   have h2 := ST.out.h2
   refine ⟨_, rfl, ns, by have := hx.out.2.2.1; have := hx.out.1; omega, hx.out.2.2.2, ?_, ST.out.di.far (by show g ≠ g2; omega) _, qe ST.out.b (Nat.le_trans hw.out h2), keep_far ST.out.k h2 _⟩
   exact Kd.jc (Kd.S_bound (Kd.S_set ST.out.s ST.out.b2 (by decide) 0 _)) (fun k hk => by have := hk.2.1; omega)
end Go.Proofs.YthdoohfdminfgaaGreatDoor.C
end
section
namespace Go.Proofs.YthdoohfdminfgaaGreatDoor.C
open Go.RowKit Go.Proofs.YthdoohfdminfgaaGreatDoorW.PrintWords Go.Proofs.YthdoohfdminfgaaGreatDoorW.PrintLast Go.Proofs.YthdoohfdminfgaaGreatDoorW.PrintMore
attribute [local go_sem] kc xy kr ks xh xg xz xx
set_option linter.unusedVariables false
set_option linter.unusedSimpArgs false
theorem add_block (ad : Addr) (i : Nat) : (ad.add i).block = ad.block := by
 obtain ⟨b, o, s⟩ := ad
 unfold Addr.add
 split <;> rfl
theorem NSt.set {w0 w : World} {g g2 g3 : Nat} {W : World} {ok : Nat → Prop} {un : Value} {ns : List (List S40)} (h : NSt w0 w g g2 g3 W ok un ns) {q : Nat} (hq : w.heap.size ≤ q) (h2 : g2 ≠ q) (h3 : g3 ≠ q) (hok : ∀ k, ok k → k ≠ q) (j : Nat) (v : Value) :
  NSt w0 w g g2 g3 (W.setCell ⟨q, j, none⟩ v) ok un ns :=
 ⟨h.di.far (by show g ≠ q; have := h.hg; omega) _, qe h.b (Nat.le_trans h.hw hq), keep_far h.k hq _, kt h.b2 h2 _, kt h.b3 h3 _, Kd.S_far h.s hok _, h.h2, h.h3, h.hg, h.hw⟩
end Go.Proofs.YthdoohfdminfgaaGreatDoor.C
end
section
namespace Go.Proofs.YthdoohfdminfgaaGreatDoor.C
open Go.RowKit Go.Proofs.YthdoohfdminfgaaGreatDoorW.PrintWords Go.Proofs.YthdoohfdminfgaaGreatDoorW.PrintLast Go.Proofs.YthdoohfdminfgaaGreatDoorW.PrintMore Go.Proofs.YthdoohfdminfgaaGreatDoor.Pl
set_option linter.unusedVariables false
theorem awake_ev : Ev (fun k => kf.f k) true := Ev.of (kf.mono) (k := 60) yh
theorem awakeT (W : World) (hG : LibHeld W) : Calls Tryz.prog 8 #[] W fun e w' => e = .returned (.bool true) ∧ Below W.heap.size W w' := by
 obtain ⟨k, hk⟩ := awake_ev.rounds
 exact kf.calls k true W hG hk
theorem newT (W : World) (A : Option Addr) (c : Nat) (l : List Int) (hl : Kd.C (Kd.int .i64) W A l.length l) (hc : l.length ≤ c) (hL : l.length ≤ 140737488351232) :
  Calls Tryz.prog 9 #[.slice A l.length c] W fun e w' => ∃ g, e = .returned (.pointer (some ⟨g, 0, none⟩)) ∧ DK W w' g ∧ Below W.heap.size W w' := by
 refine (certpathmade_New.calls A c l l 0 W W (Below.refl _ _) hl hc rfl).mono ?_
 rintro e w' ⟨g, rfl, hi, hb, _⟩
 exact ⟨g, rfl, ⟨l, 0, hi, Int.le_refl _, by omega, hL⟩, hb⟩
end Go.Proofs.YthdoohfdminfgaaGreatDoor.C
end
section
namespace Go.Proofs.YthdoohfdminfgaaGreatDoor.C
open Go.RowKit Go.ChangeShapes Go.WideShapes Go.Proofs.YthdoohfdminfgaaGreatDoorW.PrintWords Go.Proofs.YthdoohfdminfgaaGreatDoor.Pl
set_option linter.unusedVariables false
set_option maxRecDepth 100000
section
variable {H : Type} {enc : TypeId × Value → H} {W : World} {sp : Nat → Bool} {held : Bool}
def BigR (l : List S40) : Prop := l.length ≤ 9223372036854775807
def BigN (n : List (List S40)) : Prop := n.length ≤ 9223372036854775807 ∧ ∀ r ∈ n, BigR r
theorem open_attrs {fuel : Nat} {cs : List Value} {x : DataW H × List MemPlace} (h : DataW.trod enc Tryz.prog W 0 sp held fuel 42 cs = some x) :
    ∃ (A : Option Addr) (c : Nat) (l : List S40), cs = [.slice A l.length c] ∧ Kd.C k40 W A l.length l ∧ l.length ≤ c ∧ BigR l := by
  rcases Deep.open_slice Tryz.underlying42 h with ⟨rfl, _⟩ | ⟨a, len, cap, m, n, D, Pl, rfl, hb, hl, hm, hmm, _, hx⟩
  · exact ⟨none, 0, [], rfl, Kd.C_nil _ _, Nat.le_refl _, Nat.zero_le _⟩
  · have hlm : len ≤ m := by rw [hmm]; split <;> omega
    have ce : Tryz.prog.cellsOf 40 = 3 := by kernel_rfl
    have c9 : Tryz.prog.cellsOf 9 = 1 := by kernel_rfl
    have c3 : Tryz.prog.cellsOf 3 = 1 := by kernel_rfl
    have each : ∀ i, i < len → ∃ q : S40, W.cell? (a.add (i * 3)) = some (.string q.f0) ∧ W.cell? (a.add (i * 3 + 1)) = some (.int .i64 q.f1) ∧ W.cell? (a.add (i * 3 + 2)) = some (.string q.f2) := by
      intro i hi
      obtain ⟨cs', h1, h2⟩ := hx i yg
      rw [ce] at h1
      obtain ⟨_, hlen, hcell⟩ := World.cells?_some h1
      obtain ⟨y0, y1, y2, n', _, _, g0, g1, g2⟩ := Deep.trod_struct3 Tryz.underlying40 h2
      match cs', hlen with
      | [v0, v1, v2], _ =>
        simp [c9, c3] at g0 g1 g2
        obtain ⟨s0, e0, _⟩ := DataW.trod_string Tryz.underlying9 g0
        obtain ⟨n1, e1, _⟩ := DataW.trod_int Tryz.underlying3 g1
        obtain ⟨s2, e2, _⟩ := DataW.trod_string Tryz.underlying9 g2
        injection e0 with e0; injection e1 with e1; injection e2 with e2
        have q0 := hcell 0 yg
        have q1 := hcell 1 yg
        have q2 := hcell 2 yg
        rw [Deep.add_add] at q0 q1 q2
        exact ⟨⟨s0, n1, s2⟩, by rw [← e0]; simpa using q0, by rw [← e1]; simpa using q1, by rw [← e2]; simpa using q2⟩
    haveI : Inhabited S40 := ⟨z40⟩
    obtain ⟨q, hq⟩ := Deep.choose_lt each
    have hlen : ((List.range len).map q).length = len := by simp
    refine ⟨some a, cap, (List.range len).map q, by rw [hlen], ?_, by rw [hlen]; exact hl, by unfold BigR; rw [hlen]; have : cap ≤ 9223372036854775807 := hm; omega⟩
    refine ⟨rfl, by rw [hlen]; have : cap ≤ 9223372036854775807 := hm; omega, fun _ => ⟨a, rfl, fun j p hj => ?_⟩⟩
    obtain ⟨hj1, hj2⟩ := List.getElem?_eq_some_iff.1 hj
    rw [hlen] at hj1
    have hp : p = q j := by rw [← hj2]; simp
    subst hp
    obtain ⟨k0, k1, k2⟩ := hq j hj1
    refine ⟨[.string (q j).f0, .int .i64 (q j).f1, .string (q j).f2], rfl, k40_mk W (q j), fun i u hu => ?_⟩
    match i, hu with
    | 0, hu => obtain rfl : Value.string (q j).f0 = u := by simpa using hu
               exact k0
    | 1, hu => obtain rfl : Value.int .i64 (q j).f1 = u := by simpa using hu
               exact k1
    | 2, hu => obtain rfl : Value.string (q j).f2 = u := by simpa using hu
               exact k2
    | i + 3, hu => simp at hu
theorem open_rels {fuel : Nat} {cs : List Value} {x : DataW H × List MemPlace} (h : DataW.trod enc Tryz.prog W 0 sp held fuel 29 cs = some x) :
  ∃ (A : Option Addr) (c : Nat) (n : List (List S40)), cs = [.slice A n.length c] ∧ Kd.C (Kd.slice 40 k40) W A n.length n ∧ n.length ≤ c ∧ BigN n := by
 rcases Deep.open_slice1 Tryz.underlying29 yh h with ⟨rfl, _⟩ | ⟨a, len, cap, m, n, V, D, Pl, rfl, hb, hl, hm, hmm, _, hx⟩
 ·exact ⟨none, 0, [], rfl, Kd.C_nil _ _, Nat.le_refl _, Nat.zero_le _, fun r h => absurd h uf⟩
 ·have hlm : len ≤ m := by rw [hmm]; split <;> omega
  have each : ∀ i, i < len → ∃ l : List S40, BigR l ∧ ∃ (A : Option Addr) (c : Nat), W.cell? (a.add i) = some (.slice A l.length c) ∧ Kd.C k40 W A l.length l ∧ l.length ≤ c := by
   intro i hi
   obtain ⟨h1, h2⟩ := hx i yg
   obtain ⟨A, c, l, e, hC, hc, hB⟩ := open_attrs h2
   injection e with e
   exact ⟨l, hB, A, c, by rw [h1, e], hC, hc⟩
  obtain ⟨q, hq⟩ := Deep.choose_lt each
  have hlen : ((List.range len).map q).length = len := by simp
  refine ⟨some a, cap, (List.range len).map q, by rw [hlen], ?_, by rw [hlen]; exact hl, ?_⟩
  ·refine ⟨rfl, by rw [hlen]; have : cap ≤ 9223372036854775807 := hm; omega, fun _ => ⟨a, rfl, fun j p hj => ?_⟩⟩
   obtain ⟨hj1, hj2⟩ := List.getElem?_eq_some_iff.1 hj
   rw [hlen] at hj1
   have hp : p = q j := by rw [← hj2]; simp
   subst hp
   obtain ⟨_, A, c, k0, k1, k2⟩ := hq j hj1
   refine ⟨[.slice A (q j).length c], rfl, ⟨A, c, rfl, k2, k1⟩, fun i u hu => ?_⟩
   match i, hu with
   | 0, hu =>
    obtain rfl : Value.slice A (q j).length c = u := by simpa using hu
    rw [show j * (Kd.slice 40 k40).sz + 0 = j from by rw [show (Kd.slice 40 k40).sz = 1 from rfl, Nat.mul_one, Nat.add_zero]]
    exact k0
   | i + 1, hu => simp at hu
  ·refine ⟨by rw [hlen]; have : cap ≤ 9223372036854775807 := hm; omega, fun r hr => ?_⟩
   obtain ⟨i, hi, rfl⟩ := List.mem_map.1 hr
   exact (hq i (List.mem_range.1 hi)).1
theorem open_name {r : Reach} {b0 : Nat} {v : Value} {d : DataW H} {ps : List MemPlace} (hval : Value.okWide Tryz.prog W r b0 31 v) (h : DataW.Trod enc Tryz.prog W 0 sp held 31 v d ps) :
  ∃ (A : Option Addr) (c : Nat) (n : List (List S40)), v = .agg #[.slice A n.length c] ∧ Kd.C (Kd.slice 40 k40) W A n.length n ∧ n.length ≤ c ∧ BigN n := by
 obtain ⟨cs, rfl, hsz⟩ := okWide_struct Tryz.underlying31 hval
 have ce : Tryz.prog.cellsOf 31 = 1 := by kernel_rfl
 have c22 : Tryz.prog.cellsOf 29 = 1 := by kernel_rfl
 rw [ce] at hsz
 obtain ⟨fuel, hf⟩ := h
 obtain ⟨y0, n', _, _, g0⟩ := trod_struct1 Tryz.underlying31 hf
 obtain ⟨v0, rfl⟩ : ∃ v0, cs = #[v0] := by
  obtain ⟨l⟩ := cs
  match l, hsz with
  | [v0], _ => exact ⟨v0, rfl⟩
 simp [Value.cells, c22] at g0
 obtain ⟨A, c, n, e, hC, hc, hB⟩ := open_rels g0
 injection e with e
 exact ⟨A, c, n, by rw [e], hC, hc, hB⟩
end
theorem at_c {P : Program} (f : FuncId) {args : Array Value} {w : World} {Q : Ending → World → Prop} (h : Calls P f args w Q) : Calls P f args w Q := h
end Go.Proofs.YthdoohfdminfgaaGreatDoor.C
end
section
namespace Go.Proofs.YthdoohfdminfgaaGreatDoor.Pl
open Go.RowKit Go.Proofs.YthdoohfdminfgaaGreatDoorW.PrintWords Go.Proofs.YthdoohfdminfgaaGreatDoor.C
set_option linter.unusedSimpArgs false
set_option linter.unusedVariables false
theorem Split_f (c : UInt8) (s : ByteArray) (h : s.size < 4294967281) : strings_Split.f s ⟨#[c]⟩ = some ((pieces c (L s)).map S) := by
 unfold strings_Split.f
 rw [if_pos ⟨(Nat.le_refl 1 : 1 ≤ (⟨#[c]⟩ : ByteArray).size), h⟩, splitB_pieces]
def val (acc : Int) : List UInt8 → Int
 | [] => acc
 | c :: r => val (10 * acc + ((c.toNat : Int) - 48)) r
def digs (l : List UInt8) : Bool := l.all fun c => decide (48 ≤ c.toNat) && decide (c.toNat ≤ 57)
theorem digs_cons (c : UInt8) (l : List UInt8) : digs (c :: l) = true ↔ (48 ≤ c.toNat ∧ c.toNat ≤ 57) ∧ digs l = true := by simp [digs]
theorem digs_append (a b : List UInt8) : digs (a ++ b) = true ↔ digs a = true ∧ digs b = true := by simp only [digs, List.all_append, Bool.and_eq_true]
theorem val_bounds : ∀ (l : List UInt8) (acc : Int), digs l = true → 0 ≤ acc → 0 ≤ val acc l
 | [], acc, _, h => h
 | c :: r, acc, hd, h => by
  have hc := (digs_cons c r).1 hd
  exact val_bounds r _ hc.2 yg
def okArc (l : List UInt8) : Bool := decide (l.length ≠ 0) && decide (l.length ≤ 10) && !(decide (l.headD 0 = 48) && decide (1 < l.length)) && digs l && decide (val 0 l ≤ 2147483647)
theorem ju (l : List UInt8) : okArc l = true ↔ l.length ≠ 0 ∧ l.length ≤ 10 ∧ ¬ (l.headD 0 = 48 ∧ 1 < l.length) ∧ digs l = true ∧ val 0 l ≤ 2147483647 := by
 simp only [okArc, Bool.and_eq_true, decide_eq_true_eq, Bool.not_eq_true', Bool.and_eq_false_iff, decide_eq_false_iff_not, and_assoc]
 constructor
 ·rintro ⟨h1, h2, h3, h4, h5⟩
  exact ⟨h1, h2, fun h => by rcases h3 with h3 | h3; exact h3 h.1; exact h3 h.2, h4, h5⟩
 ·rintro ⟨h1, h2, h3, h4, h5⟩
  refine ⟨h1, h2, ?_, h4, h5⟩
  by_cases h : l.headD 0 = 48
  ·exact Or.inr fun h' => h3 ⟨h, h'⟩
  ·exact Or.inl h
theorem pow10_le (i : Nat) (h : i ≤ 10) : (10 : Int) ^ i ≤ 10000000000 := by
 have : ∀ i : Fin 11, (10 : Int) ^ i.val ≤ 10000000000 := by decide
 exact this ⟨i, by omega⟩
theorem arc_l0 (s : ByteArray) (hs : s.size ≤ 10) : ∀ (rest : List UInt8) (i : Nat) (acc : Int), (L s).drop i = rest → i ≤ s.size → 0 ≤ acc → acc < 10 ^ i →
  Ev (fun k => xi.l0 k s acc i) (if digs rest = true ∧ val acc rest ≤ 2147483647 then val acc rest else -1)
 | [], i, acc, h, hi, h0, h1 => by
  have hn := at_nil h
  refine Ev.step (fun k => by rw [xi.l0]) ?_
  refine Ev.neg yg ?_
  by_cases hv : acc > 2147483647
  ·refine Ev.pos hv ((Ev.now _).to ?_)
   rw [if_neg]
   simp only [val]; omega
  ·refine Ev.neg hv ((Ev.now _).to ?_)
   rw [if_pos ⟨rfl, by simp only [val]; omega⟩]
   rfl
 | c :: r, i, acc, h, hi, h0, h1 => by
  obtain ⟨hl, hb, hr⟩ := at_cons h
  have hp := pow10_le i yg
  have hc : c.toNat < 256 := c.toNat_lt
  refine Ev.step (fun k => by rw [xi.l0]) ?_
  refine Ev.pos yg (Ev.pos yg ?_)
  rw [hb]
  by_cases c1 : c.toNat < 48
  ·refine Ev.pos yg ((Ev.now _).to ?_)
   rw [if_neg]
   rw [digs_cons]; omega
  ·refine Ev.neg yg ?_
   by_cases c2 : 57 < c.toNat
   ·refine Ev.pos yg ((Ev.now _).to ?_)
    rw [if_neg]
    rw [digs_cons]; omega
   ·refine Ev.neg yg ?_
    have e1 : ((c.toNat : Int) - 48) % 256 = (c.toNat : Int) - 48 := by omega
    rw [e1, w64 (by omega : -9223372036854775808 ≤ 10 * acc) yg, w64 (n := 10 * acc + _) yg yg, w64 (n := (i : Int) + 1) yg yg]
    have ih := arc_l0 s hs r (i + 1) (10 * acc + ((c.toNat : Int) - 48)) hr yg yg (by
     rw [Int.pow_succ]; omega)
    refine ih.to ?_
    have ed : digs (c :: r) = digs r := by
     rw [Bool.eq_iff_iff, digs_cons]
     exact ⟨fun h => h.2, fun h => ⟨by omega, h⟩⟩
    rw [ed]
    rfl
theorem arc_f (s : ByteArray) : Ev (fun k => xi.f k s) (if okArc (L s) = true then val 0 (L s) else -1) := by
 unfold xi.f
 have hsz := size_L s
 by_cases h0 : L s = []
 ·refine Ev.pos (by rw [j7, h0]) ?_
  refine Ev.step (fun k => by rw [xi.j0]) (Ev.pos rfl ((Ev.now _).to ?_))
  rw [if_neg]
  rw [ju, h0]
  simp
 refine Ev.neg (by rw [j7]; exact h0) ?_
 by_cases h1 : (s.size : Int) > 10
 ·refine Ev.pos h1 ?_
  refine Ev.step (fun k => by rw [xi.j0]) (Ev.pos rfl ((Ev.now _).to ?_))
  rw [if_neg]
  rw [ju]
  omega
 refine Ev.neg h1 ?_
 obtain ⟨c, r, hcr⟩ : ∃ c r, L s = c :: r := by
  cases h : L s with
  | nil => exact absurd h h0
  | cons c r => exact ⟨c, r, rfl⟩
 have hz : (L s).drop 0 = c :: r := hcr
 obtain ⟨hl, hb, _⟩ := at_cons hz
 refine Ev.pos yg ?_
 have hb' : bt s 0 = c.toNat := hb
 rw [hb']
 have key : ∀ b : Bool, (b = true ↔ (c = 48 ∧ 1 < (L s).length)) → Ev (fun k => xi.j0 k s b) (if okArc (L s) = true then val 0 (L s) else -1) := by
  intro b hbb
  refine Ev.step (fun k => by rw [xi.j0]) ?_
  by_cases hbt : b = true
  ·refine Ev.pos hbt ((Ev.now _).to ?_)
   rw [if_neg]
   rw [ju]
   rintro ⟨_, _, h, _⟩
   exact h ⟨by rw [hcr]; exact (hbb.1 hbt).1, (hbb.1 hbt).2⟩
  ·refine Ev.neg hbt ?_
   have hl0 := arc_l0 s yg (L s) 0 0 rfl yg yg (by decide)
   refine Ev.to hl0 ?_
   have hnn : ¬ ((L s).headD 0 = 48 ∧ 1 < (L s).length) := fun h => hbt (hbb.2 ⟨by rw [hcr] at h; exact h.1, h.2⟩)
   by_cases hd : digs (L s) = true ∧ val 0 (L s) ≤ 2147483647
   ·rw [if_pos hd, if_pos]
    rw [ju]
    exact ⟨by rw [hcr]; simp, by omega, hnn, hd.1, hd.2⟩
   ·rw [if_neg hd, if_neg]
    rw [ju]
    rintro ⟨_, _, _, h4, h5⟩
    exact hd ⟨h4, h5⟩
 by_cases hc : (c.toNat : Int) = 48
 ·refine Ev.pos hc (key _ ?_)
  have : c = 48 := UInt8.toNat_inj.1 (by simpa using (by omega : c.toNat = 48))
  rw [decide_eq_true_eq]
  constructor
  ·intro h; exact ⟨this, by omega⟩
  ·intro h; have := h.2; omega
 ·refine Ev.neg hc (key _ ?_)
  constructor
  ·intro h; cases h
  ·rintro ⟨rfl, _⟩; exact absurd rfl hc
def rootOk (l : List Int) : Bool := decide (l.getD 0 0 ≤ 1) && decide (l.getD 1 0 ≤ 39) || decide (l.getD 0 0 = 2)
theorem root_f (a b : Int) : oid_root.f a b = some (decide (a ≤ 1) && decide (b ≤ 39) || decide (a = 2)) := by
 unfold oid_root.f
 by_cases h1 : a ≤ 1
 ·by_cases h2 : b ≤ 39
  ·simp [h1, h2]
  ·have : ¬ a = 2 := by omega
   simp [h1, h2, this]
 ·by_cases h3 : a = 2 <;> simp [h1, h3]
theorem oid_l0 (xs : List (List UInt8)) (hx : xs.length < 1000) : ∀ (n i : Nat) (out : List Int), i + n = xs.length → out.length = i →
  Ev (fun k => xe.l0 k out (xs.map S) (xs.length : Int) i) (if (xs.drop i).all okArc = true then (if 2 ≤ xs.length then (if rootOk (out ++ (xs.drop i).map (val 0)) = true then out ++ (xs.drop i).map (val 0) else []) else []) else []) ∨ xs.length < 2
 | 0, i, out, hn, ho => by
  by_cases h2 : xs.length < 2
  ·exact Or.inr h2
  refine Or.inl ?_
  rw [List.drop_eq_nil_of_le yg]
  rw [if_pos uf, if_pos yg]
  refine Ev.step (fun k => by rw [xe.l0]) (Ev.neg yg (Ev.pos yg (Ev.pos yg ?_)))
  rw [root_f]
  simp only [Option.bind_some]
  have e : (decide (rd out 0 ≤ 1) && decide (rd out 1 ≤ 39) || decide (rd out 0 = 2)) = rootOk (out ++ ([] : List (List UInt8)).map (val 0)) := by
   simp [rootOk, rd]
  rw [e]
  by_cases hr : rootOk (out ++ ([] : List (List UInt8)).map (val 0)) = true
  ·refine Ev.pos hr ((Ev.now _).to ?_)
   rw [if_pos hr]
   simp
  ·refine Ev.neg hr ((Ev.now _).to ?_)
   rw [if_neg hr]
 | n + 1, i, out, hn, ho => by
  by_cases h2 : xs.length < 2
  ·exact Or.inr h2
  refine Or.inl ?_
  have hi : i < xs.length := by omega
  have hd : xs.drop i = xs[i] :: xs.drop (i + 1) := List.drop_eq_getElem_cons hi
  have hrd : rdOf ByteArray.empty (xs.map S) i = S xs[i] := by
   unfold rdOf
   rw [List.getD_eq_getElem?_getD]
   simp [hi]
  refine Ev.step (fun k => by rw [xe.l0]) (Ev.pos yg (Ev.pos yg (Ev.pos (by rw [List.length_map]; omega) ?_)))
  rw [hrd]
  refine Ev.bind (arc_f (S xs[i])) ?_
  rw [L_S, hd]
  by_cases ha : okArc xs[i] = true
  ·rw [if_pos ha]
   have hv := val_bounds xs[i] 0 ((ju _).1 ha).2.2.2.1 yg
   refine Ev.neg yg (Ev.pos yg ?_)
   rw [w64 (n := (i : Int) + 1) yg yg]
   rcases oid_l0 xs hx n (i + 1) (out ++ [val 0 xs[i]]) yg (by simp [ho]) with ih | ih
   ·refine Ev.to ih ?_
    simp only [List.all_cons, List.map_cons, List.append_assoc, List.singleton_append, ha, Bool.true_and]
   ·omega
  ·rw [if_neg ha]
   refine Ev.pos yg ((Ev.now _).to ?_)
   rw [if_neg]
   simp only [List.all_cons, Bool.eq_false_iff.2 ha, Bool.false_and]
   decide
def okOid (l : List UInt8) : Bool := decide (2 ≤ (pieces 46 l).length) && decide ((pieces 46 l).length ≤ 12) && (pieces 46 l).all okArc && rootOk ((pieces 46 l).map (val 0))
theorem arcs_f (s : ByteArray) (h : s.size < 4294967281) : Ev (fun k => xe.f k s) (if okOid (L s) = true then (pieces 46 (L s)).map (val 0) else []) := by
 unfold xe.f
 refine Ev.bnd (Split_f 46 s h) ?_
 have hlen : ((pieces 46 (L s)).map S).length = (pieces 46 (L s)).length := List.length_map ..
 by_cases h2 : (pieces 46 (L s)).length < 2
 ·refine Ev.pos yg (Ev.step (fun k => by rw [xe.j0]) (Ev.pos rfl ((Ev.now _).to ?_)))
  rw [if_neg]
  simp only [okOid, Bool.and_eq_true, decide_eq_true_eq]
  omega
 refine Ev.neg yg (Ev.step (fun k => by rw [xe.j0]) ?_)
 by_cases h12 : 12 < (pieces 46 (L s)).length
 ·refine Ev.pos (by rw [decide_eq_true_eq]; omega) ((Ev.now _).to ?_)
  rw [if_neg]
  simp only [okOid, Bool.and_eq_true, decide_eq_true_eq]
  omega
 ·refine Ev.neg (by rw [decide_eq_true_eq]; omega) ?_
  rw [hlen]
  rcases oid_l0 (pieces 46 (L s)) yg (pieces 46 (L s)).length 0 [] yg rfl with ih | ih
  ·refine Ev.to ih ?_
   simp only [List.drop_zero, List.nil_append]
   have a1 : 2 ≤ (pieces 46 (L s)).length := by omega
   have a2 : (pieces 46 (L s)).length ≤ 12 := by omega
   simp only [okOid, a1, a2, decide_true, Bool.true_and, if_true]
   by_cases hA : (pieces 46 (L s)).all okArc = true
   ·rw [if_pos hA]
    simp only [hA, Bool.true_and]
   ·rw [if_neg hA]
    rw [if_neg]
    simp [hA]
  ·omega
theorem oid_Valid_f (s : ByteArray) (h : s.size < 4294967281) : Ev (fun k => kk.f k s) (okOid (L s)) := by
 unfold kk.f
 refine Ev.bind (f := fun _ l => some (!l.isEmpty)) (arcs_f s h) ((Ev.now _).to ?_)
 by_cases ho : okOid (L s) = true
 ·rw [if_pos ho, ho]
  have hne := pieces_ne 46 (L s)
  cases hp : pieces 46 (L s) with
  | nil => exact absurd hp hne
  | cons p ps => rfl
 ·rw [if_neg ho]
  simp [ho]
end Go.Proofs.YthdoohfdminfgaaGreatDoor.Pl
end
section
namespace Go.Proofs.YthdoohfdminfgaaGreatDoor.Pl
open Go.RowKit Go.Proofs.YthdoohfdminfgaaGreatDoorW.PrintWords Go.Proofs.YthdoohfdminfgaaGreatDoor.C
set_option linter.unusedSimpArgs false
set_option linter.unusedVariables false
def refEnd (l : List Int) : List Int × Bool := if 2 ≤ l.length ∧ rootOk l = true then (l, true) else ([], false)
def refFin (out : List Int) (ps : List (List UInt8)) : List Int × Bool := if ps.all okArc = true ∧ out.length + ps.length ≤ 12 then refEnd (out ++ ps.map (val 0)) else ([], false)
theorem arcs_end (out : List Int) (h : ∀ x ∈ out, (0 : Int) ≤ x) : Ev (fun k => if (out.length : Int) < 2 then ql.j4 k out true else (if 0 < (out.length : Int) then (if rd out 0 > 2 then ql.j4 k out true else (if rd out 0 < 2 then (if 1 < (out.length : Int) then ql.j4 k out (decide (rd out 1 > 39)) else none) else ql.j4 k out false)) else none)) (refEnd out) := by
 have jt : Ev (fun k => ql.j4 k out true) ([], false) := Ev.step (fun k => by rw [ql.j4]) (Ev.pos rfl (Ev.now _))
 have jf : Ev (fun k => ql.j4 k out false) (out, true) := Ev.step (fun k => by rw [ql.j4]) (Ev.neg (by decide) (Ev.now _))
 by_cases h2 : out.length < 2
 ·refine Ev.pos yg (jt.to ?_)
  unfold refEnd
  rw [if_neg]
  omega
 refine Ev.neg yg (Ev.pos yg ?_)
 have e0 : rd out 0 = out.getD 0 0 := rfl
 have e1 : rd out 1 = out.getD 1 0 := rfl
 have hp : 0 ≤ out.getD 0 0 := by
  cases out with
  | nil => simp
  | cons a t => exact h a (List.mem_cons_self ..)
 rw [e0, e1]
 have hro : rootOk out = true ↔ (out.getD 0 0 ≤ 1 ∧ out.getD 1 0 ≤ 39) ∨ out.getD 0 0 = 2 := by
  simp [rootOk]
 by_cases c0 : out.getD 0 0 > 2
 ·refine Ev.pos c0 (jt.to ?_)
  unfold refEnd
  rw [if_neg]
  rw [hro]; omega
 ·refine Ev.neg c0 ?_
  by_cases c1 : out.getD 0 0 < 2
  ·refine Ev.pos c1 (Ev.pos yg ?_)
   by_cases c2 : out.getD 1 0 > 39
   ·simp only [c2, decide_true]
    refine jt.to ?_
    unfold refEnd
    rw [if_neg]
    rw [hro]; omega
   ·simp only [c2, decide_false]
    refine jf.to ?_
    unfold refEnd
    rw [if_pos]
    rw [hro]; omega
  ·refine Ev.neg c1 (jf.to ?_)
   unfold refEnd
   rw [if_pos]
   rw [hro]; omega
theorem arcs_l1 (s : ByteArray) (out : List Int) (x6 : Int) (d : ByteArray) (hd : d.size ≤ 10) (r : List Int × Bool) : ∀ (rest : List UInt8) (i : Nat) (acc : Int), (L d).drop i = rest → digs rest = true → i ≤ d.size → 0 ≤ acc → acc < 10 ^ i →
  (if val acc rest ≤ 2147483647 then Ev (fun k => if out.length < 17592186044416 then ql.l0 k s (out ++ [val acc rest]) (wrap64 (x6 + 1)) (wrap64 (x6 + 1)) else none) r else r = ([], false)) →
  Ev (fun k => ql.l1 k s out x6 d acc i) r
 | [], i, acc, h, hg, hi, h0, h1, hr => by
  have hn := at_nil h
  refine Ev.step (fun k => by rw [ql.l1]) (Ev.neg yg ?_)
  change if acc ≤ 2147483647 then Ev (fun k => if out.length < 17592186044416 then ql.l0 k s (out ++ [acc]) (wrap64 (x6 + 1)) (wrap64 (x6 + 1)) else none) r else r = ([], false) at hr
  by_cases hv : acc > 2147483647
  ·rw [if_neg yg] at hr
   rw [hr]
   exact Ev.pos hv (Ev.now _)
  ·rw [if_pos yg] at hr
   exact Ev.neg hv hr
 | c :: t, i, acc, h, hg, hi, h0, h1, hr => by
  obtain ⟨hl, hb, ht⟩ := at_cons h
  have hp := pow10_le i yg
  have hc := (digs_cons c t).1 hg
  refine Ev.step (fun k => by rw [ql.l1]) (Ev.pos yg (Ev.pos yg ?_))
  rw [hb]
  have e1 : ((c.toNat : Int) - 48) % 256 = (c.toNat : Int) - 48 := by omega
  rw [e1, w64 (by omega : -9223372036854775808 ≤ 10 * acc) yg, w64 (n := 10 * acc + _) yg yg, w64 (n := (i : Int) + 1) yg yg]
  exact arcs_l1 s out x6 d hd r t (i + 1) (10 * acc + ((c.toNat : Int) - 48)) ht hc.2 yg yg (by rw [Int.pow_succ]; omega) hr
theorem arcs_piece (s : ByteArray) (hs : s.size < 4294967281) (out : List Int) (a i : Nat) (cur : List UInt8) (r : List Int × Bool) (ha : a ≤ i) (hi : i ≤ s.size) (ho : out.length ≤ 12)
  (hcur : ((L s).drop a).take (i - a) = cur) (hd : digs cur = true)
  (hr : if okArc cur = true ∧ out.length ≠ 12 then Ev (fun k => ql.l0 k s (out ++ [val 0 cur]) ((i + 1 : Nat) : Int) ((i + 1 : Nat) : Int)) r else r = ([], false)) :
  Ev (fun k => ql.j1 k s out a i false) r := by
 refine Ev.step (fun k => by rw [ql.j1]) (Ev.neg (by decide) (Ev.pos yg (Ev.pos yg (Ev.pos yg ?_))))
 have hLd : L (s.extract (a : Int).toNat (i : Int).toNat) = cur := by rw [L_extract]; exact hcur
 have hsz : (s.extract (a : Int).toNat (i : Int).toNat).size = cur.length := by rw [size_L, hLd]
 generalize hD : s.extract (a : Int).toNat (i : Int).toNat = D at hLd hsz
 rw [hsz]
 have jt : ¬ (okArc cur = true ∧ out.length ≠ 12) → Ev (fun k => ql.j2 k s out i D true) r := by
  intro hn
  rw [if_neg hn] at hr
  rw [hr]
  exact Ev.step (fun k => by rw [ql.j2]) (Ev.pos rfl (Ev.now _))
 have jf : ¬ cur.length = 0 → cur.length ≤ 10 → ¬ (cur.headD 0 = 48 ∧ 1 < cur.length) → Ev (fun k => ql.j2 k s out i D ((out.length : Int) == 12)) r := by
  intro n0 n10 nh
  by_cases h12 : out.length = 12
  ·rw [h12]
   exact jt yg
  ·have e : ((out.length : Int) == 12) = false := by rw [beq_eq_false_iff_ne]; omega
   rw [e]
   refine Ev.step (fun k => by rw [ql.j2]) (Ev.neg (by decide) ?_)
   refine arcs_l1 s out i D yg r cur 0 0 (by rw [hLd]; rfl) hd yg yg (by decide) ?_
   by_cases hv : val 0 cur ≤ 2147483647
   ·rw [if_pos hv]
    rw [if_pos ⟨(ju _).2 ⟨n0, n10, nh, hd, hv⟩, h12⟩] at hr
    refine Ev.pos yg ?_
    rw [w64 (n := (i : Int) + 1) yg yg]
    exact hr
   ·rw [if_neg hv]
    rw [if_neg] at hr
    ·exact hr
    ·rintro ⟨h, _⟩
     exact hv ((ju _).1 h).2.2.2.2
 by_cases h0 : cur.length = 0
 ·exact Ev.pos yg (jt (by rw [ju]; omega))
 refine Ev.neg yg ?_
 by_cases h10 : 10 < cur.length
 ·exact Ev.pos yg (jt (by rw [ju]; omega))
 refine Ev.neg yg ?_
 obtain ⟨c, t, hct⟩ : ∃ c t, cur = c :: t := by
  cases cur with
  | nil => exact absurd rfl h0
  | cons c t => exact ⟨c, t, rfl⟩
 have hb : bt D 0 = c.toNat := (at_cons (s := D) (i := 0) (by rw [hLd, hct]; rfl)).2.1
 by_cases h1 : 1 < cur.length
 ·refine Ev.pos yg (Ev.pos yg ?_)
  rw [hb]
  by_cases hc : (c.toNat : Int) = 48
  ·have : c = 48 := UInt8.toNat_inj.1 (by simpa using (by omega : c.toNat = 48))
   refine Ev.pos hc (jt ?_)
   rintro ⟨h, _⟩
   exact ((ju _).1 h).2.2.1 ⟨by rw [hct]; exact this, h1⟩
  ·refine Ev.neg hc (jf h0 yg ?_)
   rintro ⟨h, _⟩
   rw [hct] at h
   have h' : c = 48 := h
   rw [h'] at hc
   exact hc rfl
 ·exact Ev.neg yg (jf h0 yg yg)
theorem okArc_digs {l : List UInt8} (h : okArc l = true) : digs l = true := ((ju l).1 h).2.2.2.1
theorem refFin_cons (out : List Int) (p : List UInt8) (ps : List (List UInt8)) (ho : out.length ≤ 12) :
  refFin out (p :: ps) = if okArc p = true ∧ out.length ≠ 12 then refFin (out ++ [val 0 p]) ps else ([], false) := by
 unfold refFin
 by_cases h : okArc p = true ∧ out.length ≠ 12
 ·rw [if_pos h]
  simp only [List.all_cons, h.1, Bool.true_and, List.length_append, List.length_cons, List.length_nil, List.map_cons, List.append_assoc, List.singleton_append]
  have e : (out.length + (ps.length + 1) ≤ 12) ↔ (out.length + (0 + 1) + ps.length ≤ 12) := by omega
  simp only [e]
 ·rw [if_neg h, if_neg]
  rintro ⟨h1, h2⟩
  simp only [List.all_cons, Bool.and_eq_true, List.length_cons] at h1 h2
  exact h ⟨h1.1, by omega⟩
theorem arcs_l0 (s : ByteArray) (hs : s.size < 4294967281) : ∀ (rest : List UInt8) (i a : Nat) (out : List Int) (cur : List UInt8), (L s).drop i = rest → a ≤ i → i ≤ s.size → out.length ≤ 12 → (∀ x ∈ out, (0 : Int) ≤ x) →
  ((L s).drop a).take (i - a) = cur → digs cur = true → Ev (fun k => ql.l0 k s out a i) (refFin out ((cur ++ (pieces 46 rest).headD []) :: (pieces 46 rest).tail))
 | [], i, a, out, cur, h, ha, hi, ho, hp, hcur, hd => by
  have hn := at_nil h
  refine Ev.step (fun k => by rw [ql.l0]) (Ev.pos yg (Ev.neg yg ?_))
  refine arcs_piece s hs out a i cur _ ha hi ho hcur hd ?_
  have ep : cur ++ (pieces 46 []).headD [] = cur := by simp [pieces]
  rw [ep, refFin_cons out cur _ ho]
  by_cases hc : okArc cur = true ∧ out.length ≠ 12
  ·rw [if_pos hc, if_pos hc]
   have hv := val_bounds cur 0 hd yg
   refine Ev.step (fun k => by rw [ql.l0]) (Ev.neg yg ?_)
   refine (arcs_end (out ++ [val 0 cur]) ?_).to ?_
   ·intro x hx
    rcases List.mem_append.1 hx with hx | hx
    ·exact hp x hx
    ·rw [List.mem_singleton.1 hx]; exact hv
   ·unfold refFin
    rw [if_pos ⟨rfl, by simp [pieces]; omega⟩]
    simp [pieces]
  ·rw [if_neg hc, if_neg hc]
 | c :: t, i, a, out, cur, h, ha, hi, ho, hp, hcur, hd => by
  obtain ⟨hl, hb, ht⟩ := at_cons h
  refine Ev.step (fun k => by rw [ql.l0]) (Ev.pos yg (Ev.pos yg (Ev.pos yg ?_)))
  rw [hb]
  by_cases hc : c = 46
  ·subst hc
   have e : (((46 : UInt8).toNat : Int) != 46) = false := rfl
   rw [e]
   refine arcs_piece s hs out a i cur _ ha hi ho hcur hd ?_
   have ep : pieces 46 (46 :: t) = [] :: pieces 46 t := by rw [pieces, if_pos rfl]
   rw [ep]
   have e2 : cur ++ ([] :: pieces 46 t).headD [] = cur := by simp
   rw [e2, refFin_cons out cur _ ho]
   by_cases hk : okArc cur = true ∧ out.length ≠ 12
   ·rw [if_pos hk, if_pos hk]
    have hv := val_bounds cur 0 hd yg
    have ih := arcs_l0 s hs t (i + 1) (i + 1) (out ++ [val 0 cur]) [] ht yg yg ca5 (by
     intro x hx
     rcases List.mem_append.1 hx with hx | hx
     ·exact hp x hx
     ·rw [List.mem_singleton.1 hx]; exact hv) uf rfl
    refine ih.to ?_
    rw [List.nil_append, pieces_eta]
    rfl
   ·rw [if_neg hk, if_neg hk]
  ·have hc' : ¬ (c.toNat : Int) = 46 := fun e => hc (UInt8.toNat_inj.1 (by simpa using (by omega : c.toNat = 46)))
   have e : ((c.toNat : Int) != 46) = true := by rw [bne_iff_ne]; exact hc'
   rw [e]
   have ep : pieces 46 (c :: t) = (c :: (pieces 46 t).headD []) :: (pieces 46 t).tail := by rw [pieces, if_neg hc]
   rw [ep]
   refine Ev.step (fun k => by rw [ql.j1]) (Ev.pos rfl (Ev.pos yg (Ev.pos yg ?_)))
   rw [hb]
   have bad : ¬ (48 ≤ c.toNat ∧ c.toNat ≤ 57) → ([], false) = refFin out ((cur ++ ((c :: (pieces 46 t).headD []) :: (pieces 46 t).tail).headD []) :: ((c :: (pieces 46 t).headD []) :: (pieces 46 t).tail).tail) := by
    intro hb
    rw [refFin_cons out _ _ ho, if_neg]
    rintro ⟨h, _⟩
    have h := okArc_digs h
    rw [digs_append] at h
    exact hb ((digs_cons c _).1 h.2).1
   by_cases h1 : (c.toNat : Int) < 48
   ·exact Ev.pos h1 ((Ev.now _).to (bad yg))
   refine Ev.neg h1 ?_
   by_cases h2 : (c.toNat : Int) > 57
   ·exact Ev.pos h2 ((Ev.now _).to (bad yg))
   refine Ev.neg h2 ?_
   rw [w64 (n := (i : Int) + 1) yg yg]
   have hcur' : ((L s).drop a).take (i + 1 - a) = cur ++ [c] := by
    have e3 : i + 1 - a = (i - a) + 1 := by omega
    rw [e3, List.take_add_one, hcur]
    have : ((L s).drop a)[i - a]? = some c := by
     rw [List.getElem?_drop, show a + (i - a) = i by omega]
     have := congrArg (fun l => l[0]?) h
     simpa [List.getElem?_drop] using this
    rw [this]; rfl
   have ih := arcs_l0 s hs t (i + 1) a out (cur ++ [c]) ht yg yg ho hp hcur' (by
    rw [digs_append]
    exact ⟨hd, (digs_cons c []).2 ⟨by omega, rfl⟩⟩)
   refine ih.to ?_
   simp
theorem ValidOID_f (s : ByteArray) (h : s.size < 4294967281) : Ev (fun k => zv.f k s) (okOid (L s)) := by
 unfold zv.f
 refine Ev.bind (f := fun _ l => some l.2) (show Ev (fun k => ql.f k s) _ from arcs_l0 s h (L s) 0 0 [] [] rfl yg yg uf uf uf rfl) ((Ev.now _).to ?_)
 rw [List.nil_append, pieces_eta]
 unfold refFin refEnd okOid
 simp only [List.length_nil, Nat.zero_add, List.nil_append, List.length_map]
 by_cases h1 : (pieces 46 (L s)).all okArc = true <;> by_cases h2 : (pieces 46 (L s)).length ≤ 12 <;> by_cases h3 : 2 ≤ (pieces 46 (L s)).length <;> by_cases h4 : rootOk ((pieces 46 (L s)).map (val 0)) = true <;> simp [h1, h2, h3, h4]
end Go.Proofs.YthdoohfdminfgaaGreatDoor.Pl
end
section
namespace Go.Proofs.YthdoohfdminfgaaGreatDoor.Pl
open Go.RowKit Go.Proofs.YthdoohfdminfgaaGreatDoorW.PrintWords Go.Proofs.YthdoohfdminfgaaGreatDoor.C
set_option linter.unusedSimpArgs false
set_option linter.unusedVariables false
theorem get_bt (s : ByteArray) (i : Nat) (h : i < s.size) : ((s.get! i).toNat : Int) = bt s i := by
 unfold bt
 rw [dif_pos (show (i : Int).toNat < s.size from h)]
 have : s.get! i = s[i] := by
  cases s
  rename_i d
  simp only [ByteArray.get!]
  exact getElem!_pos d i h
 rw [this]
 rfl
theorem lt_of_bt (s : ByteArray) (i : Nat) (h : i < s.size) : ∃ b : Nat, b < 256 ∧ (s.get! i).toNat = b ∧ bt s i = b :=
 ⟨(s.get! i).toNat, UInt8.toNat_lt _, rfl, (get_bt s i h).symm⟩
theorem l1_more (s : ByteArray) (pos n least v : Int) (j b : Nat) (r : Bool) (hb : bt s (pos + j) = b) (h0 : 0 ≤ pos) (hn : n ≤ 3) (hj : (j : Int) ≤ n) (hl : pos + j < s.size) (hs : s.size < 4294967281) (hc : b / 64 = 2) (hv0 : 0 ≤ v) (hv : v < 100000000)
  (h : Ev (fun k => qi.l1 k s pos n least (64 * v + (b % 64 : Nat)) ((j + 1 : Nat) : Int)) r) : Ev (fun k => qi.l1 k s pos n least v j) r := by
 have e1 : wrap64 (pos + j) = pos + j := w64 yg yg
 refine Ev.step (fun k => by rw [qi.l1]) (Ev.pos hj (Ev.pos yg (Ev.pos yg (Ev.pos ?_ ?_))))
 ·rw [e1, hb, Int.tdiv_eq_ediv_of_nonneg yg]
  omega
 ·rw [e1, hb]
  have e2 : Int.tmod (b : Int) 64 = ((b % 64 : Nat) : Int) := by
   rw [Int.tmod_eq_emod_of_nonneg yg]; omega
  rw [e2, w64 (n := 64 * v) yg yg, w64 (n := ((b % 64 : Nat) : Int)) yg yg, w64 (n := 64 * v + _) yg yg, w64 (n := (j : Int) + 1) yg yg]
  exact h
theorem l1_bad (s : ByteArray) (pos n least v : Int) (j b : Nat) (hb : bt s (pos + j) = b) (h0 : 0 ≤ pos) (hn : n ≤ 3) (hj : (j : Int) ≤ n) (hl : pos + j < s.size) (hs : s.size < 4294967281) (h256 : b < 256) (hc : ¬ b / 64 = 2) :
  Ev (fun k => qi.l1 k s pos n least v j) false := by
 have e1 : wrap64 (pos + j) = pos + j := w64 yg yg
 refine Ev.step (fun k => by rw [qi.l1]) (Ev.pos hj (Ev.pos yg (Ev.pos yg (Ev.neg ?_ (Ev.now _)))))
 rw [e1, hb, Int.tdiv_eq_ediv_of_nonneg yg]
 omega
theorem l1_end (s : ByteArray) (pos n least v : Int) (j : Nat) (r : Bool) (hj : (j : Int) = n + 1) (h0 : 0 ≤ pos) (hn0 : 0 ≤ n) (hn : n ≤ 3) (hl : pos ≤ s.size) (hs : s.size < 4294967281) (h : Ev (fun k => qi.l0 k s (pos + (n + 1))) r) :
  Ev (fun k => qi.l1 k s pos n least v j) (if v < least ∨ 1114111 < v ∨ (55296 ≤ v ∧ v < 57344) then false else r) := by
 have jt : Ev (fun k => qi.j6 k s pos n true) false := Ev.step (fun k => by rw [qi.j6]) (Ev.pos rfl (Ev.now _))
 have jf : Ev (fun k => qi.j6 k s pos n false) r := Ev.step (fun k => by rw [qi.j6]) (Ev.neg (by decide) (by
  rw [w64 (n := n + 1) yg yg, w64 (n := pos + (n + 1)) yg yg]; exact h))
 refine Ev.step (fun k => by rw [qi.l1]) (Ev.neg yg ?_)
 by_cases c1 : v < least
 ·exact Ev.pos c1 (jt.to (by rw [if_pos (Or.inl c1)]))
 refine Ev.neg c1 ?_
 by_cases c2 : v > 1114111
 ·exact Ev.pos c2 (jt.to (by rw [if_pos (Or.inr (Or.inl c2))]))
 refine Ev.neg c2 ?_
 by_cases c3 : v ≥ 55296
 ·refine Ev.pos c3 ?_
  by_cases c4 : v < 57344
  ·rw [show decide (v < 57344) = true from decide_eq_true c4]
   exact jt.to (by rw [if_pos (Or.inr (Or.inr ⟨c3, c4⟩))])
  ·rw [show decide (v < 57344) = false from decide_eq_false c4]
   exact jf.to (by rw [if_neg yg])
 ·exact Ev.neg c3 (jf.to (by rw [if_neg yg]))
theorem mask1 : ∀ n : Nat, n < 256 → Go.bits .and .i64 (wrap64 (n : Int)) (wrap64 ((shl .i64 1 (wrap64 (6 - 1))) - 1)) = ((n % 32 : Nat) : Int) := by decide +kernel
theorem mask2 : ∀ n : Nat, n < 256 → Go.bits .and .i64 (wrap64 (n : Int)) (wrap64 ((shl .i64 1 (wrap64 (6 - 2))) - 1)) = ((n % 16 : Nat) : Int) := by decide +kernel
theorem mask3 : ∀ n : Nat, n < 256 → Go.bits .and .i64 (wrap64 (n : Int)) (wrap64 ((shl .i64 1 (wrap64 (6 - 3))) - 1)) = ((n % 8 : Nat) : Int) := by decide +kernel
theorem dec_pref (s : ByteArray) (pos : Nat) (r : List UInt8) (h : (L s).drop pos = 239 :: 191 :: 189 :: r) : Utf8.decode s pos = (65533, 3) := by
 obtain ⟨l0, b0, h1⟩ := at_cons h
 obtain ⟨l1, b1, h2⟩ := at_cons h1
 obtain ⟨l2, b2, h3⟩ := at_cons h2
 have g0 : (s.get! (pos + 0)).toNat = 239 := by have := get_bt s pos l0; rw [b0] at this; exact Int.ofNat_inj.1 this
 have g1 : (s.get! (pos + 1)).toNat = 191 := by have := get_bt s (pos + 1) l1; rw [b1] at this; exact Int.ofNat_inj.1 this
 have g2 : (s.get! (pos + 2)).toNat = 189 := by have := get_bt s (pos + 1 + 1) l2; rw [b2] at this; exact Int.ofNat_inj.1 this
 unfold Utf8.decode
 simp only [g0, g1, g2, l1, show pos + 2 < s.size from l2]
 rfl
theorem pref_drop (s : ByteArray) (pos : Nat) (h : Lib.hasPrefix (s.extract pos s.size).data.toList [239, 191, 189] = true) : ∃ r, (L s).drop pos = 239 :: 191 :: 189 :: r := by
 have e : (s.extract pos s.size).data.toList = (L s).drop pos := by
  have := L_extract s pos s.size
  rw [List.take_of_length_le (by rw [List.length_drop, ← size_L]; exact Nat.le_refl _)] at this
  exact this
 rw [e] at h
 obtain ⟨r, hr⟩ := List.isPrefixOf_iff_prefix.1 h
 exact ⟨r, hr.symm⟩
theorem utf_bad (s : ByteArray) (n pos : Nat) (hp : pos < s.size) (h : Utf8.decode s pos = (65533, 1)) : ko s (n + 1) pos = false := by
 unfold ko
 rw [if_pos hp, h]
 have hf : Lib.hasPrefix (s.extract pos s.size).data.toList [239, 191, 189] = false := by
  cases hc : Lib.hasPrefix (s.extract pos s.size).data.toList [239, 191, 189] with
  | false => rfl
  | true =>
   obtain ⟨r, hr⟩ := pref_drop s pos hc
   rw [dec_pref s pos r hr] at h
   cases h
 rw [if_neg (by simp only; omega), if_pos ⟨rfl, hf⟩]
theorem utf_good (s : ByteArray) (n pos c w : Nat) (hp : pos < s.size) (h : Utf8.decode s pos = (c, w)) (h1 : 32 ≤ c) (h2 : c ≠ 127) (h3 : c = 65533 → ∃ r, (L s).drop pos = 239 :: 191 :: 189 :: r) : ko s (n + 1) pos = ko s n (pos + w) := by
 conv => lhs; unfold ko
 rw [if_pos hp, h]
 rw [if_neg (by simp only; omega)]
 rw [if_neg]
 rintro ⟨hc, hf⟩
 obtain ⟨r, hr⟩ := h3 hc
 have e : (s.extract pos s.size).data.toList = (L s).drop pos := by
  have := L_extract s pos s.size
  rw [List.take_of_length_le (by rw [List.length_drop, ← size_L]; exact Nat.le_refl _)] at this
  exact this
 rw [e, hr] at hf
 simp [Lib.hasPrefix, List.isPrefixOf] at hf
theorem utf_l0 (s : ByteArray) (hs : s.size < 4294967281) : ∀ (n pos : Nat), s.size - pos ≤ n → pos ≤ s.size → Ev (fun k => qi.l0 k s pos) (ko s n pos) := by
 intro n
 induction n using Nat.strongRecOn with
 | _ n IH =>
 intro pos hn hpos
 rcases Nat.lt_or_ge pos s.size with hp | hp
 case inr =>
  refine Ev.step (fun k => by rw [qi.l0]) (Ev.neg yg ((Ev.now _).to ?_))
  cases n with
  | zero => rfl
  | succ n => unfold ko; rw [if_neg yg]
 obtain ⟨n, rfl⟩ : ∃ m, n = m + 1 := ⟨n - 1, by omega⟩
 obtain ⟨b0, hb0, g0, e0⟩ := lt_of_bt s pos hp
 have IH' : ∀ w, 0 < w → pos + w ≤ s.size → Ev (fun k => qi.l0 k s ((pos : Int) + (w : Nat))) (ko s n (pos + w)) := fun w hw hl => by
  have := IH n yg (pos + w) yg hl
  rw [Int.natCast_add] at this
  exact this
 refine Ev.step (fun k => by rw [qi.l0]) (Ev.pos yg (Ev.pos yg ?_))
 rw [e0]
 have j1t : Ev (fun k => qi.j1 k s pos b0 true) false := Ev.step (fun k => by rw [qi.j1]) (Ev.pos rfl (Ev.now _))
 by_cases c0 : b0 < 32
 ·refine Ev.pos yg (j1t.to ?_)
  unfold ko
  rw [if_pos hp]
  have hd : Utf8.decode s pos = (b0, 1) := by
   unfold Utf8.decode
   simp only [Nat.add_zero, g0]
   rw [if_pos yg]
  rw [hd, if_pos (Or.inl c0)]
 refine Ev.neg yg ?_
 by_cases c1 : b0 = 127
 ·have e : ((b0 : Int) == 127) = true := by rw [beq_iff_eq]; omega
  rw [e]
  refine j1t.to ?_
  unfold ko
  rw [if_pos hp]
  have hd : Utf8.decode s pos = (b0, 1) := by
   unfold Utf8.decode
   simp only [Nat.add_zero, g0]
   rw [if_pos yg]
  rw [hd, if_pos (Or.inr c1)]
 have e : ((b0 : Int) == 127) = false := by rw [beq_eq_false_iff_ne]; omega
 rw [e]
 refine Ev.step (fun k => by rw [qi.j1]) (Ev.neg (by decide) ?_)
 by_cases c2 : b0 < 128
 ·refine Ev.pos yg ?_
  have hd : Utf8.decode s pos = (b0, 1) := by
   unfold Utf8.decode
   simp only [Nat.add_zero, g0]
   rw [if_pos yg]
  rw [w64 (n := (pos : Int) + 1) yg yg]
  refine (IH' 1 yg yg).to ?_
  rw [utf_good s n pos b0 1 hp hd yg yg yg]
 refine Ev.neg yg ?_
 have bad : Utf8.decode s pos = (65533, 1) → false = ko s (n + 1) pos := fun h => (utf_bad s n pos hp h).symm
 by_cases c3 : b0 < 192
 ·refine Ev.neg yg (Ev.step (fun k => by rw [qi.j2]) (Ev.neg (by decide) (Ev.neg yg (Ev.step (fun k => by rw [qi.j3]) (Ev.neg (by decide) (Ev.neg yg ((Ev.now _).to (bad ?_))))))))
  unfold Utf8.decode
  simp only [Nat.add_zero, g0]
  rw [if_neg yg, if_neg (by simp only [Bool.and_eq_true, beq_iff_eq]; omega), if_neg (by simp only [Bool.and_eq_true, beq_iff_eq]; omega), if_neg (by simp only [Bool.and_eq_true, beq_iff_eq]; omega)]
  rfl
 refine Ev.pos yg (Ev.step (fun k => by rw [qi.j2]) ?_)
 have cnt : ∀ j, (decide (pos + j < s.size) && (s.get! (pos + j)).toNat / 64 == 2) = true ↔ pos + j < s.size ∧ (s.get! (pos + j)).toNat / 64 = 2 := fun j => by simp only [Bool.and_eq_true, decide_eq_true_eq, beq_iff_eq]
 by_cases c4 : b0 < 224
 ·refine Ev.pos (by simpa using (by omega : (b0 : Int) < 224)) (Ev.step (fun k => by rw [qi.j4]) ?_)
  rw [w64 (n := (s.size : Int) - pos) yg yg]
  by_cases z1 : pos + 1 < s.size
  case neg =>
   refine Ev.pos yg ((Ev.now _).to (bad ?_))
   unfold Utf8.decode
   simp only [Nat.add_zero, g0, z1, decide_false, Bool.false_and, Bool.and_false, Bool.false_eq_true, if_false]
   rw [if_neg yg]
   rfl
  refine Ev.neg yg (Ev.pos (by decide +kernel) ?_)
  rw [mask1 b0 hb0]
  obtain ⟨b1, hb1, g1, e1⟩ := lt_of_bt s (pos + 1) z1
  by_cases k1 : b1 / 64 = 2
  case neg =>
   refine (l1_bad s pos 1 128 _ 1 b1 e1 yg yg yg yg hs hb1 k1).to (bad ?_)
   unfold Utf8.decode
   have : (b1 / 64 == 2) = false := by rw [beq_eq_false_iff_ne]; exact k1
   simp only [Nat.add_zero, g0, g1, this, Bool.false_and, Bool.and_false, Bool.false_eq_true, if_false]
   rw [if_neg yg]
   rfl
  refine l1_more s pos 1 128 _ 1 b1 _ e1 yg yg yg yg hs k1 yg yg ?_
  refine (l1_end s pos 1 128 _ 2 _ yg yg yg yg yg hs (IH' 2 yg yg)).to ?_
  by_cases q : b0 % 32 * 64 + b1 % 64 ≥ 128
  ·rw [if_neg yg]
   refine (utf_good s n pos (b0 % 32 * 64 + b1 % 64) 2 hp ?_ yg yg yg).symm
   unfold Utf8.decode
   simp only [Nat.add_zero, g0, g1, z1, k1, decide_true, BEq.rfl, Bool.and_true]
   rw [if_neg yg, if_pos (by rw [beq_iff_eq]; omega), if_pos yg]
  ·rw [if_pos yg]
   refine bad ?_
   unfold Utf8.decode
   simp only [Nat.add_zero, g0, g1, z1, k1, decide_true, BEq.rfl, Bool.and_true]
   rw [if_neg yg, if_pos (by rw [beq_iff_eq]; omega), if_neg yg]
   rfl
 refine Ev.neg (by simpa using (by omega : ¬ (b0 : Int) < 224)) (Ev.pos yg (Ev.step (fun k => by rw [qi.j3]) ?_))
 by_cases c5 : b0 < 240
 ·refine Ev.pos (by simpa using (by omega : (b0 : Int) < 240)) (Ev.step (fun k => by rw [qi.j4]) ?_)
  rw [w64 (n := (s.size : Int) - pos) yg yg]
  have n6 : (b0 / 32 == 6) = false := by rw [beq_eq_false_iff_ne]; omega
  by_cases z2 : pos + 2 < s.size
  case neg =>
   refine Ev.pos yg ((Ev.now _).to (bad ?_))
   unfold Utf8.decode
   simp only [Nat.add_zero, g0, n6, z2, decide_false, Bool.false_and, Bool.and_false, Bool.false_eq_true, if_false]
   rw [if_neg yg]
   rfl
  have z1 : pos + 1 < s.size := by omega
  refine Ev.neg yg (Ev.pos (by decide +kernel) ?_)
  rw [mask2 b0 hb0]
  obtain ⟨b1, hb1, g1, e1⟩ := lt_of_bt s (pos + 1) z1
  obtain ⟨b2, hb2, g2, e2⟩ := lt_of_bt s (pos + 2) z2
  by_cases k1 : b1 / 64 = 2
  case neg =>
   refine (l1_bad s pos 2 2048 _ 1 b1 e1 yg yg yg yg hs hb1 k1).to (bad ?_)
   unfold Utf8.decode
   have : (b1 / 64 == 2) = false := by rw [beq_eq_false_iff_ne]; exact k1
   simp only [Nat.add_zero, g0, g1, this, Bool.false_and, Bool.and_false, Bool.false_eq_true, if_false]
   rw [if_neg yg]
   rfl
  refine l1_more s pos 2 2048 _ 1 b1 _ e1 yg yg yg yg hs k1 yg yg ?_
  by_cases k2 : b2 / 64 = 2
  case neg =>
   refine (l1_bad s pos 2 2048 _ 2 b2 e2 yg yg yg yg hs hb2 k2).to (bad ?_)
   unfold Utf8.decode
   have : (b2 / 64 == 2) = false := by rw [beq_eq_false_iff_ne]; exact k2
   simp only [Nat.add_zero, g0, g1, g2, n6, this, Bool.false_and, Bool.and_false, Bool.false_eq_true, if_false]
   rw [if_neg yg]
   rfl
  refine l1_more s pos 2 2048 _ 2 b2 _ e2 yg yg yg yg hs k2 yg yg ?_
  refine (l1_end s pos 2 2048 _ 3 _ yg yg yg yg yg hs (IH' 3 yg yg)).to ?_
  have n14 : b0 / 16 = 14 := by omega
  have vd : Utf8.valid ((b0 % 16 * 4096 + b1 % 64 * 64 + b2 % 64 : Nat) : Int) = true ↔ ¬ (55296 ≤ b0 % 16 * 4096 + b1 % 64 * 64 + b2 % 64 ∧ b0 % 16 * 4096 + b1 % 64 * 64 + b2 % 64 < 57344) := by
   unfold Utf8.valid
   simp only [Bool.or_eq_true, Bool.and_eq_true, decide_eq_true_eq]
   omega
  by_cases q : b0 % 16 * 4096 + b1 % 64 * 64 + b2 % 64 ≥ 2048 ∧ ¬ (55296 ≤ b0 % 16 * 4096 + b1 % 64 * 64 + b2 % 64 ∧ b0 % 16 * 4096 + b1 % 64 * 64 + b2 % 64 < 57344)
  ·rw [if_neg yg]
   refine (utf_good s n pos (b0 % 16 * 4096 + b1 % 64 * 64 + b2 % 64) 3 hp ?_ yg yg ?_).symm
   ·unfold Utf8.decode
    simp only [Nat.add_zero, g0, g1, g2, z1, z2, k1, k2, n6, n14, decide_true, BEq.rfl, Bool.and_true, Bool.false_and, Bool.false_eq_true, if_false, Bool.true_and, if_true]
    rw [if_neg yg, if_pos (by rw [vd.2 q.2, Bool.and_true, decide_eq_true_eq]; exact q.1)]
   ·intro hq
    have x0 : b0 = 239 := by omega
    have x1 : b1 = 191 := by omega
    have x2 : b2 = 189 := by omega
    obtain ⟨u0, v0, y0⟩ := at_some hp
    obtain ⟨u1, v1, y1⟩ := at_some z1
    obtain ⟨u2, v2, y2⟩ := at_some z2
    have t0 : u0 = 239 := UInt8.toNat_inj.1 (by have : (u0.toNat : Int) = b0 := y0.symm.trans e0; rw [x0] at this; exact Int.ofNat_inj.1 this)
    have t1 : u1 = 191 := UInt8.toNat_inj.1 (by have : (u1.toNat : Int) = b1 := y1.symm.trans e1; rw [x1] at this; exact Int.ofNat_inj.1 this)
    have t2 : u2 = 189 := UInt8.toNat_inj.1 (by have : (u2.toNat : Int) = b2 := y2.symm.trans e2; rw [x2] at this; exact Int.ofNat_inj.1 this)
    refine ⟨(L s).drop (pos + 2 + 1), ?_⟩
    rw [v0, v1, v2, t0, t1, t2]
  ·rw [if_pos yg]
   refine bad ?_
   unfold Utf8.decode
   simp only [Nat.add_zero, g0, g1, g2, z1, z2, k1, k2, n6, n14, decide_true, BEq.rfl, Bool.and_true, Bool.false_and, Bool.false_eq_true, if_false, Bool.true_and, if_true]
   rw [if_neg yg, if_neg (by rw [Bool.and_eq_true, decide_eq_true_eq, vd]; omega)]
   rfl
 refine Ev.neg (by simpa using (by omega : ¬ (b0 : Int) < 240)) (Ev.pos yg ?_)
 have n6 : (b0 / 32 == 6) = false := by rw [beq_eq_false_iff_ne]; omega
 have n14 : (b0 / 16 == 14) = false := by rw [beq_eq_false_iff_ne]; omega
 by_cases c6 : b0 < 248
 case neg =>
  refine Ev.neg yg ((Ev.now _).to (bad ?_))
  have n30 : (b0 / 8 == 30) = false := by rw [beq_eq_false_iff_ne]; omega
  unfold Utf8.decode
  simp only [Nat.add_zero, g0, n6, n14, n30, Bool.false_and, Bool.and_false, Bool.false_eq_true, if_false]
  rw [if_neg yg]
  rfl
 refine Ev.pos yg (Ev.step (fun k => by rw [qi.j4]) ?_)
 rw [w64 (n := (s.size : Int) - pos) yg yg]
 by_cases z3 : pos + 3 < s.size
 case neg =>
  refine Ev.pos yg ((Ev.now _).to (bad ?_))
  unfold Utf8.decode
  simp only [Nat.add_zero, g0, n6, n14, z3, decide_false, Bool.false_and, Bool.and_false, Bool.false_eq_true, if_false]
  rw [if_neg yg]
  rfl
 have z1 : pos + 1 < s.size := by omega
 have z2 : pos + 2 < s.size := by omega
 refine Ev.neg yg (Ev.pos (by decide +kernel) ?_)
 rw [mask3 b0 hb0]
 obtain ⟨b1, hb1, g1, e1⟩ := lt_of_bt s (pos + 1) z1
 obtain ⟨b2, hb2, g2, e2⟩ := lt_of_bt s (pos + 2) z2
 obtain ⟨b3, hb3, g3, e3⟩ := lt_of_bt s (pos + 3) z3
 by_cases k1 : b1 / 64 = 2
 case neg =>
  refine (l1_bad s pos 3 65536 _ 1 b1 e1 yg yg yg yg hs hb1 k1).to (bad ?_)
  unfold Utf8.decode
  have : (b1 / 64 == 2) = false := by rw [beq_eq_false_iff_ne]; exact k1
  simp only [Nat.add_zero, g0, g1, n6, n14, this, Bool.false_and, Bool.and_false, Bool.false_eq_true, if_false]
  rw [if_neg yg]
  rfl
 refine l1_more s pos 3 65536 _ 1 b1 _ e1 yg yg yg yg hs k1 yg yg ?_
 by_cases k2 : b2 / 64 = 2
 case neg =>
  refine (l1_bad s pos 3 65536 _ 2 b2 e2 yg yg yg yg hs hb2 k2).to (bad ?_)
  unfold Utf8.decode
  have : (b2 / 64 == 2) = false := by rw [beq_eq_false_iff_ne]; exact k2
  simp only [Nat.add_zero, g0, g1, g2, n6, n14, this, Bool.false_and, Bool.and_false, Bool.false_eq_true, if_false]
  rw [if_neg yg]
  rfl
 refine l1_more s pos 3 65536 _ 2 b2 _ e2 yg yg yg yg hs k2 yg yg ?_
 by_cases k3 : b3 / 64 = 2
 case neg =>
  refine (l1_bad s pos 3 65536 _ 3 b3 e3 yg yg yg yg hs hb3 k3).to (bad ?_)
  unfold Utf8.decode
  have : (b3 / 64 == 2) = false := by rw [beq_eq_false_iff_ne]; exact k3
  simp only [Nat.add_zero, g0, g1, g2, g3, n6, n14, this, Bool.false_and, Bool.and_false, Bool.false_eq_true, if_false]
  rw [if_neg yg]
  rfl
 refine l1_more s pos 3 65536 _ 3 b3 _ e3 yg yg yg yg hs k3 yg yg ?_
 refine (l1_end s pos 3 65536 _ 4 _ yg yg yg yg yg hs (IH' 4 yg yg)).to ?_
 have n30 : b0 / 8 = 30 := by omega
 have vd : Utf8.valid ((b0 % 8 * 262144 + b1 % 64 * 4096 + b2 % 64 * 64 + b3 % 64 : Nat) : Int) = true ↔ b0 % 8 * 262144 + b1 % 64 * 4096 + b2 % 64 * 64 + b3 % 64 ≤ 1114111 ∧ ¬ (55296 ≤ b0 % 8 * 262144 + b1 % 64 * 4096 + b2 % 64 * 64 + b3 % 64 ∧ b0 % 8 * 262144 + b1 % 64 * 4096 + b2 % 64 * 64 + b3 % 64 < 57344) := by
  unfold Utf8.valid
  simp only [Bool.or_eq_true, Bool.and_eq_true, decide_eq_true_eq]
  omega
 by_cases q : b0 % 8 * 262144 + b1 % 64 * 4096 + b2 % 64 * 64 + b3 % 64 ≥ 65536 ∧ b0 % 8 * 262144 + b1 % 64 * 4096 + b2 % 64 * 64 + b3 % 64 ≤ 1114111
 ·rw [if_neg yg]
  refine (utf_good s n pos (b0 % 8 * 262144 + b1 % 64 * 4096 + b2 % 64 * 64 + b3 % 64) 4 hp ?_ yg yg yg).symm
  unfold Utf8.decode
  simp only [Nat.add_zero, g0, g1, g2, g3, z1, z2, z3, k1, k2, k3, n6, n14, n30, decide_true, BEq.rfl, Bool.and_true, Bool.false_and, Bool.false_eq_true, if_false, Bool.true_and, if_true]
  rw [if_neg yg, if_pos (by rw [vd.2 yg, Bool.and_true, decide_eq_true_eq]; exact q.1)]
 ·rw [if_pos yg]
  refine bad ?_
  unfold Utf8.decode
  simp only [Nat.add_zero, g0, g1, g2, g3, z1, z2, z3, k1, k2, k3, n6, n14, n30, decide_true, BEq.rfl, Bool.and_true, Bool.false_and, Bool.false_eq_true, if_false, Bool.true_and, if_true]
  rw [if_neg yg, if_neg (by rw [Bool.and_eq_true, decide_eq_true_eq, vd]; omega)]
  rfl
def okText (a0 : Int) (s : ByteArray) : Bool := if a0 = 12 then ko s s.size 0 else if a0 = 19 then (bytesOf s).all text_p1 else if a0 = 22 then (bytesOf s).all text_p2 else false
theorem text_Valid_f (a0 : Int) (s : ByteArray) (h : s.size ≤ 4294967280) : jj.f a0 s = some (okText a0 s) := by
 unfold jj.f okText
 rw [if_pos h]
theorem prn_byte : ∀ n : Nat, n < 256 → (kz.f n = some true ∧ text_p1 n = true) ∨ (kz.f n = some false ∧ zk.f 20 n (⟨#[32, 39, 40, 41, 43, 44, 45, 46, 47, 58, 61, 63]⟩ : ByteArray) = some (text_p1 n)) := by decide +kernel
theorem ia5_byte : ∀ n : Nat, n < 256 → text_p2 n = (decide (32 ≤ n) && decide (n ≤ 126)) := by decide +kernel
theorem prn_l0 (s : ByteArray) (hs : s.size < 4294967281) : ∀ (rest : List UInt8) (i : Nat), (L s).drop i = rest → i ≤ s.size → Ev (fun k => qj.l0 k 19 s i) ((rest.map fun b => (b.toNat : Int)).all text_p1)
 | [], i, h, hi => by
  have hn := at_nil h
  refine Ev.step (fun k => by rw [qj.l0]) ?_
  exact Ev.neg yg (Ev.now _)
 | c :: r, i, h, hi => by
  obtain ⟨hl, hb, hr⟩ := at_cons h
  have ih := prn_l0 s hs r (i + 1) hr yg
  refine Ev.step (fun k => by rw [qj.l0]) (Ev.pos yg (Ev.neg (by decide) (Ev.pos (by decide) (Ev.pos yg ?_))))
  rw [hb]
  have jt : Ev (fun k => qj.j2 k 19 s i true) false := Ev.step (fun k => by rw [qj.j2]) (Ev.pos rfl (Ev.now _))
  have jf : Ev (fun k => qj.j2 k 19 s i false) ((r.map fun b => (b.toNat : Int)).all text_p1) := Ev.step (fun k => by rw [qj.j2]) (Ev.neg (by decide) (by
   rw [w64 (n := (i : Int) + 1) yg yg]; exact ih))
  rcases prn_byte c.toNat c.toNat_lt with ⟨h1, h2⟩ | ⟨h1, h2⟩
  ·refine Ev.bnd h1 (Ev.pos rfl (jf.to ?_))
   simp [h2]
  ·refine Ev.bnd h1 (Ev.neg (by decide) (Ev.bind (Ev.of (fun k => zk.mono _ _ k) h2) ?_))
   cases hp : text_p1 c.toNat with
   | true =>
    refine jf.to ?_
    simp [hp]
   | false =>
    refine jt.to ?_
    simp [hp]
theorem ia5_l0 (s : ByteArray) (hs : s.size < 4294967281) : ∀ (rest : List UInt8) (i : Nat), (L s).drop i = rest → i ≤ s.size → Ev (fun k => qj.l0 k 22 s i) ((rest.map fun b => (b.toNat : Int)).all text_p2)
 | [], i, h, hi => by
  have hn := at_nil h
  refine Ev.step (fun k => by rw [qj.l0]) ?_
  exact Ev.neg yg (Ev.now _)
 | c :: r, i, h, hi => by
  obtain ⟨hl, hb, hr⟩ := at_cons h
  have ih := ia5_l0 s hs r (i + 1) hr yg
  refine Ev.step (fun k => by rw [qj.l0]) (Ev.pos yg (Ev.pos rfl (Ev.pos yg ?_)))
  rw [hb]
  have jt : Ev (fun k => qj.j2 k 22 s i true) false := Ev.step (fun k => by rw [qj.j2]) (Ev.pos rfl (Ev.now _))
  have jf : Ev (fun k => qj.j2 k 22 s i false) ((r.map fun b => (b.toNat : Int)).all text_p2) := Ev.step (fun k => by rw [qj.j2]) (Ev.neg (by decide) (by
   rw [w64 (n := (i : Int) + 1) yg yg]; exact ih))
  have hp := ia5_byte c.toNat c.toNat_lt
  by_cases c1 : c.toNat < 32
  ·refine Ev.pos yg (jt.to ?_)
   have : text_p2 c.toNat = false := by rw [hp]; simp; omega
   simp [this]
  refine Ev.neg yg ?_
  by_cases c2 : 126 < c.toNat
  ·refine Ev.pos yg (jt.to ?_)
   have : text_p2 c.toNat = false := by rw [hp]; simp; omega
   simp [this]
  refine Ev.neg yg (Ev.neg (by decide) (jf.to ?_))
  have : text_p2 c.toNat = true := by rw [hp]; simp; omega
  simp [this]
theorem ValidText_f (a0 : Int) (s : ByteArray) (h : s.size < 4294967281) : Ev (fun k => qj.f k a0 s) (okText a0 s) := by
 unfold qj.f okText
 by_cases h12 : a0 = 12
 ·rw [if_pos h12]
  refine Ev.pos h12 ?_
  refine Ev.bind (f := fun _ t => some t) (show Ev (fun k => qi.f k s) _ from utf_l0 s h s.size 0 yg yg) ?_
  exact Ev.now _
 rw [if_neg h12]
 refine Ev.neg h12 ?_
 by_cases h19 : a0 = 19
 ·subst h19
  rw [if_pos rfl]
  refine Ev.pos rfl (Ev.step (fun k => by rw [qj.j0]) ?_)
  exact Ev.pos rfl (prn_l0 s h (L s) 0 rfl yg)
 rw [if_neg h19]
 refine Ev.neg h19 ?_
 by_cases h22 : a0 = 22
 ·subst h22
  rw [if_pos rfl]
  refine Ev.step (fun k => by rw [qj.j0]) ?_
  exact Ev.pos rfl (ia5_l0 s h (L s) 0 rfl yg)
 ·rw [if_neg h22]
  have e : (a0 == 22) = false := by rw [beq_eq_false_iff_ne]; exact h22
  rw [e]
  refine Ev.step (fun k => by rw [qj.j0]) ?_
  exact Ev.neg (by decide) (Ev.now _)
end Go.Proofs.YthdoohfdminfgaaGreatDoor.Pl
end
