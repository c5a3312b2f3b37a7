/- Words, walks and plain laws that the claim rests on, gathered. -/
import Derived.Shelf.Strings.Builder1
import Derived.Shelf.Strings.Builder2
import Derived.Shelf.Strings.OnBuilder
import Derived.Shelf.Small.Bits
import Derived.Shelf.Small.Strs
import Derived.Shelf.Small.Wraps
import Derived.Shelf.Strings.BuilderF
import Derived.Shelf.Strings.BuilderK
import Derived.Shelf.Utf8.RuneCount
import Derived.Shelf.Strings.Builder2Cap
import Derived.Shelf.Strconv.Itoa0
import Derived.Shelf.Strings.Search1
import Derived.Shelf.Strings.Search2
import Derived.Shelf.Strings.Search3
import Derived.Shelf.Strings.Cut
import Derived.Shelf.Strings.Count
import Derived.Shelf.LaysM
import Derived.Shelf.Strings.Shaped
import Derived.Shelf.Sort.Plain
import Derived.Shelf.Strings.Prefix
import Derived.Shelf.Strings.Split
import Derived.Shelf.Strings.SplitShaped
import Derived.Shelf.Unicode.Decode
import Derived.Shelf.Strings.RuneCount
import Derived.Shelf.Strings.Explode
import Derived.Shelf.Unicode.DecodeSlow
import Derived.Shelf.Unicode.DecodeAny
import Derived.Shelf.Strings.BuilderCap
import Derived.Shelf.Slices.In.SortNone
import Derived.Shelf.Slices.In.SortNone2
import Derived.Test.YtlamfnaoemingaaGreatDoorProg
import Derived.Below
import Derived.Deep.Draws
import Derived.Deep.AppendLies
import Derived.Maps.AppendAt
import Derived.OwnWalk
import Derived.Laws.BytesArg
import Derived.Laws.MakeOwn
import Derived.Laws.OwnMore
import Derived.Deep.OwnRows
import Derived.Tactics
import Derived.Lib.ConvBytes
import Derived.Laws.Slices
import Derived.WalkKit
import Derived.KernelRfl
import Derived.RowKit3
import Derived.Deep.LoopGhost
import Derived.Deep.QuietTactic
import Derived.BigQuiet
import Derived.WideLaws
import Derived.Deep.DeepCutAuto
import Derived.Deep.CutBlock
import Derived.Deep.RegionHeld3
import Derived.Laws.Rows
import Derived.Lib.AppendStr
import Derived.ArgAppend
import Derived.Laws.IdiomCopy
import Derived.RowKit
import Derived.WalkSpells
import Derived.OrdersHeld
import Derived.Laws.BitsLemmas
import Derived.WalkLawsBesides
import Derived.Laws.StructEq
import Derived.Lib.SplitLaws
import Derived.Test.YtlamfnaoemingaaGreatDoorGS0
import Derived.Test.YtlamfnaoemingaaGreatDoorGS1
import Derived.Test.YtlamfnaoemingaaGreatDoorGS2
import Derived.Test.YtlamfnaoemingaaGreatDoorGS3
import Derived.Test.YtlamfnaoemingaaGreatDoorGS4
import Derived.Test.YtlamfnaoemingaaGreatDoorGS5
import Derived.Test.YtlamfnaoemingaaGreatDoorGS6
import Derived.Test.YtlamfnaoemingaaGreatDoorGS7
import Derived.Test.YtlamfnaoemingaaGreatDoorGS8
import Derived.Test.YtlamfnaoemingaaGreatDoorGS9
import Derived.Test.YtlamfnaoemingaaGreatDoorGS10
import Derived.Test.YtlamfnaoemingaaGreatDoorGSc
namespace Go.Proofs.YtlamfnaoemingaaGreatDoorW.PrintLast
end Go.Proofs.YtlamfnaoemingaaGreatDoorW.PrintLast
namespace Go.Proofs.YtlamfnaoemingaaGreatDoorW.PrintMore
end Go.Proofs.YtlamfnaoemingaaGreatDoorW.PrintMore
namespace Go.Proofs.YtlamfnaoemingaaGreatDoorW.PrintWords
end Go.Proofs.YtlamfnaoemingaaGreatDoorW.PrintWords
section
namespace Go.Proofs.YtlamfnaoemingaaGreatDoor.C
open Go.RowKit Go.Proofs.YtlamfnaoemingaaGreatDoorW.PrintWords Go.Proofs.YtlamfnaoemingaaGreatDoorW.PrintLast Go.Proofs.YtlamfnaoemingaaGreatDoorW.PrintMore
attribute [local go_sem] zw zx xe xd zn zp zy zz
set_option linter.unusedVariables false
set_option linter.unusedSimpArgs false
theorem infoRow : (Tryz.prog.info? 81).map (fun i => (i.zero, i.size, i.bytes)) = some (some (.slice none 0 0), 1, 24) := by kernel_rfl
def DK (w0 W : World) (g : Nat) : Prop := ∃ (L : List Int) (At : Int), zc w0 W g L At ∧ 0 ≤ At ∧ At ≤ L.length ∧ L.length ≤ 140737488351232
theorem DK.below {w0 W W1 : World} {g : Nat} (h : DK w0 W g) (hb : Below W.heap.size W W1) : DK w0 W1 g := let ⟨L, At, hi, h⟩ := h; ⟨L, At, zc.below hi hb, h⟩
theorem DK.ge {w0 W : World} {g : Nat} (h : DK w0 W g) : w0.heap.size ≤ g := let ⟨L, At, hi, h⟩ := h; zc.ge hi
theorem DK.lt {w0 W : World} {g : Nat} (h : DK w0 W g) : g < W.heap.size := let ⟨L, At, hi, h⟩ := h; zc.lt hi
theorem DK.blk {w0 W : World} {g : Nat} (h : DK w0 W g) : ∃ cs, W.heap[g]? = some (.cells cs 75 (0, 0)) := let ⟨L, At, ⟨A0, c0, hb, _⟩, h⟩ := h; ⟨_, hb⟩
theorem DK.grown {w0 W W1 : World} {g : Nat} {row : Option Nat} (h : DK w0 W g) (hw : W.grownBy W1 row) (hne : some g ≠ row) : DK w0 W1 g := let ⟨L, At, hi, h⟩ := h; ⟨L, At, zc.grown hi hw hne, h⟩
theorem DK.far {w0 W : World} {g : Nat} (h : DK w0 W g) {p : Addr} (hne : g ≠ p.block) (u : Value) : DK w0 (W.setCell p u) g := let ⟨L, At, hi, h⟩ := h; ⟨L, At, zc.far hi hne u, h⟩
theorem tmod_in (x a : Int) (h : 0 < a) (h1 : a ≤ 1000) : ∃ r, Int.tmod (wrap64 (Int.tmod x a + a)) a = r ∧ 0 ≤ r ∧ r < a := by
 have h2 := Int.tmod_lt_of_pos x h
 have h3 : -a < Int.tmod x a := by
  have h4 := Int.neg_tmod x a
  have h5 := Int.tmod_lt_of_pos (-x) h
  rw [h4] at h5
  omega
 have h6 : wrap64 (Int.tmod x a + a) = Int.tmod x a + a := by unfold wrap64; omega
 exact ⟨_, rfl, by rw [h6]; exact Int.tmod_nonneg _ yo, Int.tmod_lt_of_pos _ h⟩
theorem next_f (L : List Int) (At a : Int) (h : 0 ≤ At) (h1 : At ≤ L.length) (hL : L.length ≤ 140737488351232) (ha : 0 < a) (ha1 : a ≤ 1000) :
  ∃ r At', zm.f L At a = some (r, At') ∧ 0 ≤ r ∧ r < a ∧ 0 ≤ At' ∧ At' ≤ L.length := by
 unfold zm.f
 by_cases c : At ≥ (L.length : Int)
 ·exact ⟨0, At, if_pos c, by omega, ha, h, h1⟩
 ·have e1 : wrap64 (At + 1) = At + 1 := by unfold wrap64; omega
  have e2 : wrap64 (wrap64 (At + 1) - 1) = At := by rw [e1]; unfold wrap64; omega
  rw [if_neg c, e2, e1, if_pos h, if_pos yo, if_neg yo]
  obtain ⟨r, hr, h2, h3⟩ := tmod_in (rd L At) a ha ha1
  exact ⟨r, At + 1, by rw [hr], h2, h3, by omega, by omega⟩
theorem ke (g : Nat) (a : Int) (ha : 0 < a) (ha1 : a ≤ 1000) (w0 w : World) (hI : DK w0 w g) (hB : Below w0.heap.size w0 w) :
  Calls Tryz.prog 24 #[.pointer (some ⟨g, 0, none⟩), .int .i64 a] w fun e w' => ∃ r, e = .returned (.int .i64 r) ∧ 0 ≤ r ∧ r < a ∧ DK w0 w' g ∧ Below w0.heap.size w0 w' ∧ KeepBut w w' g none := by
 obtain ⟨L, At, hi, h, h1, hL⟩ := hI
 obtain ⟨r, At', hf, h2, h3, h4, h5⟩ := next_f L At a h h1 hL ha ha1
 refine (zm.calls g L At a r At' w0 w hi hB hf).mono ?_
 rintro e w' ⟨rfl, hi', hb, hk⟩
 exact ⟨r, rfl, h2, h3, ⟨L, At', hi', h4, h5, hL⟩, hb, hk⟩
def made12 : List S83 := ([(⟨(⟨#[50, 46, 53, 46, 52, 46, 51]⟩ : ByteArray), 12, (⟨#[65, 110, 110]⟩ : ByteArray)⟩ : S83), (⟨(⟨#[50, 46, 53, 46, 52, 46, 51]⟩ : ByteArray), 19, (⟨#[32, 97, 110, 110]⟩ : ByteArray)⟩ : S83), (⟨(⟨#[50, 46, 53, 46, 52, 46, 51]⟩ : ByteArray), 12, (⟨#[103, 114, 195, 182, 195, 159, 101]⟩ : ByteArray)⟩ : S83), (⟨(⟨#[50, 46, 53, 46, 52, 46, 54]⟩ : ByteArray), 19, (⟨#[85, 83]⟩ : ByteArray)⟩ : S83), (⟨(⟨#[50, 46, 53, 46, 52, 46, 49, 48]⟩ : ByteArray), 19, (⟨#[69, 120, 97, 109, 112, 108, 101, 32, 32, 67, 111, 114, 112]⟩ : ByteArray)⟩ : S83), (⟨(⟨#[50, 46, 53, 46, 52, 46, 49, 48]⟩ : ByteArray), 12, (⟨#[101, 120, 97, 109, 112, 108, 101, 32, 99, 111, 114, 112]⟩ : ByteArray)⟩ : S83), (⟨(⟨#[50, 46, 53, 46, 52, 46, 49, 49]⟩ : ByteArray), 22, (⟨#[97, 44, 98, 43, 99, 61, 100, 92, 101]⟩ : ByteArray)⟩ : S83), (⟨(⟨#[48, 46, 57, 46, 50, 51, 52, 50, 46, 49, 57, 50, 48, 48, 51, 48, 48, 46, 49, 48, 48, 46, 49, 46, 50, 53]⟩ : ByteArray), 22, (⟨#[111, 114, 103]⟩ : ByteArray)⟩ : S83), (⟨(⟨#[49, 46, 50, 46, 56, 52, 48, 46, 49, 49, 51, 53, 52, 57, 46, 49, 46, 57, 46, 49]⟩ : ByteArray), 22, (⟨#[97, 110, 110, 64, 101, 120, 97, 109, 112, 108, 101, 46, 111, 114, 103]⟩ : ByteArray)⟩ : S83), (⟨(⟨#[49, 46, 50, 46, 56, 52, 48, 46, 49, 49, 51, 53, 52, 57, 46, 49, 46, 57, 46, 49]⟩ : ByteArray), 22, (⟨#[110, 111, 32, 97, 100, 100, 114, 101, 115, 115]⟩ : ByteArray)⟩ : S83), (⟨(⟨#[50, 46, 53, 46, 52, 46, 57, 57]⟩ : ByteArray), 19, (⟨#[120]⟩ : ByteArray)⟩ : S83), (⟨(⟨#[50, 46, 53, 46, 52, 46, 55]⟩ : ByteArray), 12, (⟨#[76]⟩ : ByteArray)⟩ : S83)] : List (S83))
theorem attr_weak (g : Nat) (w0 w : World) (hI : DK w0 w g) (hB : Below w0.heap.size w0 w) :
  Calls Tryz.prog 56 #[.pointer (some ⟨g, 0, none⟩)] w fun e w' => ∃ a, a ∈ made12 ∧ e = .returned (.agg #[.string a.f0, .int .i64 a.f1, .string a.f2]) ∧ DK w0 w' g ∧ Below w0.heap.size w0 w' ∧ KeepBut w w' g none := by
 obtain ⟨L, At, hi, h, h1, hL⟩ := hI
 obtain ⟨r, At', hf, h2, h3, h4, h5⟩ := next_f L At 12 h h1 hL yo yo
 have hm : made12.length = 12 := by kernel_rfl
 have hr : q9 made12 r ∈ made12 := by
  unfold q9
  rw [List.getD_eq_getElem?_getD, List.getElem?_eq_getElem yo]
  exact List.getElem_mem yo
 refine (kf.calls g L At (q9 made12 r).f0 (q9 made12 r).f1 (q9 made12 r).f2 At' w0 w hi hB ?_).mono ?_
 ·show Option.bind (some made12) _ = _
  rw [Option.bind_some, hf, Option.bind_some, if_pos h2, if_pos (by show r < ((made12.length : Nat) : Int); rw [hm]; omega)]
 ·rintro e w' ⟨rfl, hi', hb, hk⟩
  exact ⟨_, hr, rfl, ⟨L, At', hi', h4, h5, hL⟩, hb, hk⟩
def RI (r : List S83) (y : Int) : Prop := (r = [] ∧ 1 ≤ y ∧ y ≤ 2) ∨ (∃ a, a ∈ made12 ∧ r = [a] ∧ 0 ≤ y ∧ y ≤ 1) ∨ (∃ a b, a ∈ made12 ∧ b ∈ made12 ∧ a.f0.toList ≠ b.f0.toList ∧ r = [a, b] ∧ y = 0)
def RelMade (r : List S83) : Prop := (∃ a, a ∈ made12 ∧ r = [a]) ∨ (∃ a b, a ∈ made12 ∧ b ∈ made12 ∧ a.f0.toList ≠ b.f0.toList ∧ r = [a, b])
theorem RI.done {r : List S83} {y : Int} (h : RI r y) (hy : ¬ y > 0) : RelMade r := by
 rcases h with ⟨rfl, h, _⟩ | ⟨a, ha, rfl, _⟩ | ⟨a, b, ha, hb, hn, rfl, _⟩
 ·omega
 ·exact .inl ⟨a, ha, rfl⟩
 ·exact .inr ⟨a, b, ha, hb, hn, rfl⟩
structure NSt (w0 w : World) (g g2 g3 : Nat) (W : World) (ok : Nat → Prop) (un : Value) (ns : List (List S83)) : Prop where
 di : DK w0 W g
 b : Below w0.heap.size w0 W
 k : KeepBut w W g none
 b2 : W.heap[g2]? = some (.cells #[.slice none 0 0] 30 (0, 0))
 b3 : W.heap[g3]? = some (.cells #[un] 30 (0, 0))
 s : Kd.S (Kd.slice 83 k83) 81 W w.heap.size ok un ns
 h2 : w.heap.size ≤ g2
 h3 : w.heap.size ≤ g3
 hg : g < w.heap.size
 hw : w0.heap.size ≤ w.heap.size
section
variable {w0 w : World} {g g2 g3 : Nat} {W W' : World} {ok ok' : Nat → Prop} {un : Value} {ns : List (List S83)}
theorem NSt.below (h : NSt w0 w g g2 g3 W ok un ns) (hb : Below W.heap.size W W') : NSt w0 w g g2 g3 W' ok un ns :=
 ⟨h.di.below hb, qf h.b hb, KeepBut.trans h.k (KeepBut.of_below hb g none) (.inl rfl), qx h.b2 hb, qx h.b3 hb, Kd.S_below h.s hb, h.h2, h.h3, h.hg, h.hw⟩
theorem NSt.mono (h : NSt w0 w g g2 g3 W ok un ns) (hok : ∀ k, w.heap.size ≤ k → k < W.heap.size → ok k → ok' k) : NSt w0 w g g2 g3 W ok' un ns :=
 ⟨h.di, h.b, h.k, h.b2, h.b3, Kd.S_mono (Kd.S_bound h.s) (fun k hk => hok k hk.2.1 hk.2.2.1 hk.1), h.h2, h.h3, h.hg, h.hw⟩
theorem NSt.call (h : NSt w0 w g g2 g3 W ok un ns) (hd : DK w0 W' g) (hb : Below w0.heap.size w0 W') (hk : KeepBut W W' g none) : NSt w0 w g g2 g3 W' ok un ns := by
 obtain ⟨L, At, hi, _⟩ := h.di
 refine ⟨hd, hb, KeepBut.trans h.k hk (.inl rfl), KeepBut.blk hk h.b2 (by have := h.h2; have := h.hg; omega) y7, KeepBut.blk hk h.b3 (by have := h.h3; have := h.hg; omega) y7, ?_, h.h2, h.h3, h.hg, h.hw⟩
 exact Kd.S_mono (Kd.S_keep (zc.apartS hi h.s (by decide)) hk (fun _ hk => hk.2)) (fun _ hk => hk.1)
theorem keep_grown {row : Option Nat} (h : KeepBut w W g none) (hg : W.grownBy W' row) (hr : ∀ k, row = some k → w.heap.size ≤ k) : KeepBut w W' g none :=
 KeepBut.trans h (KeepBut.of_grown hg g) (by
  cases row with
  | none => exact .inl rfl
  | some k => exact .inr ⟨k, rfl, hr k rfl⟩)
theorem NSt.grown {row : Option Nat} (h : NSt w0 w g g2 g3 W ok un ns) (hg : W.grownBy W' row) (hb : Below w.heap.size W W') (hr : ∀ k, row = some k → w.heap.size ≤ k) (h2 : some g2 ≠ row) (h3 : some g3 ≠ row) (hok : ∀ k, ok k → some k ≠ row) :
  NSt w0 w g g2 g3 W' ok un ns :=
 ⟨h.di.grown hg (fun e => by have := hr g e.symm; have := h.hg; omega), h.b.trans (hb.mono h.hw), keep_grown h.k hg hr, blk_grown h.b2 hg h2, blk_grown h.b3 hg h3, Kd.S_grown h.s hg hok, h.h2, h.h3, h.hg, h.hw⟩
theorem NSt.push (h : NSt w0 w g g2 g3 W ok un ns) {v1 : Value} {ns' : List (List S83)} (hg : W.grownBy W' un.ownBlock) (hb : Below w.heap.size W W') (hs : Kd.S (Kd.slice 83 k83) 81 W' w.heap.size ok' v1 ns') (h23 : g2 ≠ g3) :
  NSt w0 w g g2 g3 (W'.setCell ⟨g3, 0, none⟩ v1) ok' v1 ns' := by
 have hr := Kd.S_base h.s
 have b3 := blk_grown h.b3 hg (Kd.S_ne h.s h.b3 (by decide))
 refine ⟨(h.di.grown hg (fun e => by have := hr g e.symm; have := h.hg; omega)).far (by show g ≠ g3; have := h.hg; have := h.h3; omega) _, ?_, keep_far (keep_grown h.k hg hr) h.h3 _, ?_, xo b3 0 v1 rfl, Kd.S_set hs b3 (by decide) 0 v1, h.h2, h.h3, h.hg, h.hw⟩
 ·exact qh (h.b.trans (hb.mono h.hw)) (Nat.le_trans h.hw h.h3)
 ·exact blk_far (blk_grown h.b2 hg (Kd.S_ne h.s h.b2 (by decide))) h23 _
end
theorem ne_new {v v1 : Value} {n k : Nat} (ho : v1.ownBlock = v.ownBlock ∨ ∃ b, v1.ownBlock = some b ∧ n ≤ b) (h : some k ≠ v.ownBlock ∧ k < n) : some k ≠ v1.ownBlock := by
 rcases ho with e | ⟨b, e, hb⟩
 ·rw [e]; exact h.1
 ·rw [e]
  intro e2
  injection e2 with e2
  have := h.2
  omega
theorem row_call {w0 W W' : World} {g base : Nat} {u : Value} {r : List S83} (hd : DK w0 W g) (h : Kd.R k83 83 W base (fun _ => True) u r) (hk : KeepBut W W' g none) : Kd.R k83 83 W' base (fun _ => True) u r := by
 obtain ⟨L, At, hi, _⟩ := hd
 exact Kd.x2 (Kd.R_keep (zc.apart hi h (by decide)) hk (fun _ hk => hk.2)) (fun _ hk => hk.1)
set_option maxHeartbeats 8000000 in
set_option maxRecDepth 100000 in
theorem name_weak (g : Nat) (w0 w : World) (hI : DK w0 w g) (hB : Below w0.heap.size w0 w) :
  Calls Tryz.prog 23 #[.pointer (some ⟨g, 0, none⟩)] w fun e w' => ∃ (v : Value) (n : List (List S83)), e = .returned (.agg #[v]) ∧ n.length ≤ 3 ∧ (∀ r ∈ n, RelMade r) ∧
   Kd.S (Kd.slice 83 k83) 81 w' w.heap.size (fun k => k ≠ g) v n ∧ DK w0 w' g ∧ Below w0.heap.size w0 w' ∧ KeepBut w w' g none := by
 have hu24 := Tryz.underlying30
 have hu26 := Tryz.underlying83
 have hg := qd.mk hI.lt
 have hw := qd.mk hB.size
 have HI := qd.mk hI
 have HB := qd.mk hB
 clear hI hB
 go_enter Tryz.func23, Tryz.ntmps23
 go_upto_region 2 with (fail)
 obtain ⟨W1, hW1⟩ : ∃ W, W = ((w.alloc (Obj.cells #[Value.slice none 0 0] 30)).alloc (Obj.cells #[Value.slice none 0 0] 30)) := ⟨_, rfl⟩
 rw [← hW1]
 have hb1 : Below w.heap.size w W1 := by rw [hW1]; exact qb (qb (Below.refl _ _) _) _
 have hb2 : W1.heap[w.heap.size]? = some (.cells #[.slice none 0 0] 30 (0, 0)) := by rw [hW1]; exact ql (heap_alloc_new w _) _
 have hb3 : W1.heap[w.heap.size + 1]? = some (.cells #[.slice none 0 0] 30 (0, 0)) := by rw [hW1]; simpa using heap_alloc_new (w.alloc (Obj.cells #[Value.slice none 0 0] 30)) (Obj.cells #[Value.slice none 0 0] 30)
 have ST : qd (NSt w0 w g w.heap.size (w.heap.size + 1) W1 (fun _ => True) (.slice none 0 0) []) := ⟨HI.out.below hb1, qf HB.out hb1, KeepBut.of_below hb1 g none, hb2, hb3, Kd.S_nil _ _ _ _ _, Nat.le_refl _, Nat.le_succ _, hg.out, hw.out⟩
 clear hW1 hb1 hb2 hb3
 have G23 := qd.mk (show w.heap.size ≠ w.heap.size + 1 by omega)
 generalize w.heap.size + 1 = g3 at ST G23 ⊢
 obtain ⟨g2, hg2⟩ : ∃ x, x = w.heap.size := ⟨_, rfl⟩
 rw [← hg2] at ST G23 ⊢
 clear hg2
 go_wp2_with (go_at_call 24; refine (ke g 4 yo yo w0 _ ST.out.di ST.out.b).mono ?_; rintro e W2 ⟨x0, rfl, hx0, hx1, di, hb, hk⟩; replace ST := qd.mk (ST.out.call di hb hk); clear di hb hk)
 go_loopg [4] 3 (fun kq v4 w' => ∃ (x : Int) (ns : List (List S83)) (un : Value), v4 = .int .i64 x ∧ qd (0 ≤ x ∧ x ≤ kq ∧ ns.length + x ≤ 3 ∧ ∀ r ∈ ns, RelMade r) ∧ qd (NSt w0 w g g2 g3 w' (fun _ => True) un ns))
 case atStart => exact ⟨x0, [], _, rfl, ⟨hx0, by omega, by simp; omega, fun r h => by cases h⟩, ST⟩
 case round =>
  clear ST hx0 hx1
  obtain ⟨x, ns, un, rfl, hx, ST⟩ := hrel
  by_cases cx : x > 0
  ·have cxb : decide (x > 0) = true := decide_eq_true cx
   have CX := qd.mk cx
   clear cx
   obtain ⟨k1, rfl⟩ : ∃ k1, gk = k1 + 1 := ⟨gk - 1, by have := hx.out.2.1; have := CX.out; omega⟩
   go_wp2_with (go_at_call 24; refine (ke g 5 yo yo w0 _ ST.out.di ST.out.b).mono ?_; rintro e W3 ⟨y0, rfl, hy0, hy1, di, hb, hk⟩; replace ST := qd.mk (ST.out.call di hb hk); clear di hb hk)
   go_loopg [5, 6] 2 (fun kq v5 v6 w' => ∃ (r : List S83) (y : Int), v6 = .int .i64 y ∧ qd (RI r y ∧ y ≤ kq) ∧ qd (NSt w0 w g g2 g3 w' (fun k => some k ≠ v5.ownBlock) un ns) ∧ qd (Kd.R k83 83 w' w.heap.size (fun _ => True) v5 r))
   case atStart => exact ⟨[], _, rfl, ⟨.inl ⟨rfl, by omega, by omega⟩, by omega⟩, ⟨ST.out.mono (fun k _ _ _ => by simp [Value.ownBlock])⟩, ⟨Kd.R_nil _ _ _ _ _⟩⟩
   case round =>
    clear ST hy0 hy1
    obtain ⟨r, y, rfl, hy, ST, HR⟩ := hrel
    by_cases cy : y > 0
    ·have cyb : decide (y > 0) = true := decide_eq_true cy
     have CY := qd.mk cy
     clear cy
     obtain ⟨k2, rfl⟩ : ∃ k2, gk = k2 + 1 := ⟨gk - 1, by have := hy.out.2; have := CY.out; omega⟩
     obtain ⟨A5, c5, rfl⟩ := Kd.R_slice HR.out
     go_wp2_with (go_at_call 56; refine (attr_weak g w0 _ ST.out.di ST.out.b).mono ?_; rintro e W4 ⟨a, ha, rfl, di, hb, hk⟩; replace HR := qd.mk (row_call ST.out.di HR.out hk); replace ST := qd.mk (ST.out.call di hb hk); clear di hb hk)
     obtain ⟨W5, hW5⟩ : ∃ W, W = W4.alloc (Obj.cells #[Value.string a.f0, Value.int IntKind.i64 a.f1, Value.string a.f2] 83) := ⟨_, rfl⟩
     rw [← hW5]
     have hb5 : Below W4.heap.size W4 W5 := by rw [hW5]; exact qb (Below.refl _ _) _
     have BA := qd.mk (show W5.heap[W4.heap.size]? = some (.cells #[.string a.f0, .int .i64 a.f1, .string a.f2] 83 (0, 0)) by rw [hW5]; exact heap_alloc_new _ _)
     have GA := qd.mk (show w.heap.size ≤ W4.heap.size from ST.out.k.1)
     replace ST := qd.mk (ST.out.below hb5)
     replace HR := qd.mk (Kd.R_below (Kd.R_elderB HR.out W4.heap.size (Nat.le_refl _)) hb5)
     clear hW5 hb5
     generalize W4.heap.size = gA at BA GA HR ⊢
     have z0 : W5.cell? ⟨gA, 0, none⟩ = some (.string a.f0) := (qe BA.out 0).trans rfl
     have z1 : W5.cell? ⟨gA, 1, none⟩ = some (.int .i64 a.f1) := (qe BA.out 1).trans rfl
     have z2 : W5.cell? ⟨gA, 2, none⟩ = some (.string a.f2) := (qe BA.out 2).trans rfl
     rcases hy.out.1 with ⟨rfl, h1, h2⟩ | ⟨a0, ha0, rfl, h1, h2⟩ | ⟨a0, b0, _, _, _, _, h1⟩
     ·go_quiet (fail)
      replace ST := qd.mk (ST.out.below (qa (Below.refl _ _) nq))
      replace HR := qd.mk (Kd.zl HR.out nq)
      replace BA := qd.mk (qm BA.out nq)
      clear z0 z1 z2
      generalize W5.drewN nq = W6 at ST HR BA ⊢
      have z0 : W6.cell? ⟨gA, 0, none⟩ = some (.string a.f0) := (qe BA.out 0).trans rfl
      have z1 : W6.cell? ⟨gA, 1, none⟩ = some (.int .i64 a.f1) := (qe BA.out 1).trans rfl
      have z2 : W6.cell? ⟨gA, 2, none⟩ = some (.string a.f2) := (qe BA.out 2).trans rfl
      go_wp2_with ((with_reducible refine q8 (N := 40) rfl ?_); refine Kd.R_append k83 (w0 := W6) (W := W6) w.heap.size rfl (.tmp 37) (.tmp 39) 81 83 (.agg #[(.string ⟨#[]⟩), (.int .i64 0), (.string ⟨#[]⟩)]) 40 rfl Tryz.underlying81 info83 rfl (by decide) yo (.slice A5 ([] : List S83).length c5) [] a [.string a.f0, .int .i64 a.f1, .string a.f2] (fun k => True ∧ k ≠ gA) (fun _ => False) rfl (by first | (go_simp; done) | (go_simp; rfl)) (k83_mkM _ _ _ a) (fun _ hk => hk.elim) (fun k hk => ⟨trivial, by have := zo BA.out; omega⟩) HR.out (Below.refl _ _) ST.out.k.1 y7 ?_; intro v1 W7 ho hb hg ho'; have hS := qd.mk (((ST.out.mono (ok' := fun k => some k ≠ (Value.slice A5 ([] : List S83).length c5).ownBlock ∧ k < W6.heap.size) (fun k _ h2 h3 => ⟨h3, h2⟩)).grown hg hb (Kd.R_base HR.out) (Kd.R_ne HR.out ST.out.b2 (by decide)) (Kd.R_ne HR.out ST.out.b3 (by decide)) (fun _ h => h.1)).mono (ok' := fun k => some k ≠ v1.ownBlock) (fun k _ _ h3 => ne_new ho' h3)); clear ST; have ST := hS; clear hS; have HR7 := qd.mk (Kd.x2 (ok' := fun _ => True) ho (fun _ _ => trivial)); clear HR; have HR := HR7; clear HR7 ho hb hg ho' z0 z1 z2 BA)
      go_roundg k2
      case measure => omega
      case rel => exact ⟨_, _, by first | rfl | simp, ⟨.inr (.inl ⟨a, ha, rfl, by have := h1; omega, by have := h2; omega⟩), by have := hy.out.2; omega⟩, ST, HR⟩
     ·have hc1 := (Kd.R_reads' HR.out).2.2
      obtain ⟨ad, rfl, hx0, hx1, hx2⟩ := at_T83 hc1 0 yo y7
      have e0 : ad.add 0 = ad := by
       obtain ⟨b, o, s⟩ := ad
       cases s <;> simp [Addr.add]
      replace hx0 : W5.cell? (ad.add 0) = some (.string a0.f0) := hx0
      rw [e0] at hx0
      clear hx1 hx2
      by_cases ct : a0.f0.toList = a.f0.toList
      ·have ctb : (a0.f0.toList == a.f0.toList) = true := beq_iff_eq.mpr ct
       have ctc : (a0.f0.toList != a.f0.toList) = false := bne_eq_false_iff_eq.mpr ct
       clear ct
       go_quiet (fail)
       go_wp2
       go_roundg k2
       case measure => omega
       case rel => exact ⟨_, _, by first | rfl | simp, ⟨.inr (.inl ⟨a0, ha0, rfl, by have := CY.out; omega, by omega⟩), by have := hy.out.2; omega⟩, ⟨ST.out.below (qa (Below.refl _ _) nq)⟩, ⟨Kd.x2 (Kd.zl HR.out nq) (fun _ _ => trivial)⟩⟩
      ·have ctb : (a0.f0.toList == a.f0.toList) = false := beq_eq_false_iff_ne.mpr ct
       have ctc : (a0.f0.toList != a.f0.toList) = true := bne_iff_ne.mpr ct
       have CT := qd.mk ct
       clear ct
       go_quiet (fail)
       clear hx0
       replace ST := qd.mk (ST.out.below (qa (Below.refl _ _) nq))
       replace HR := qd.mk (Kd.zl HR.out nq)
       replace BA := qd.mk (qm BA.out nq)
       clear z0 z1 z2
       generalize W5.drewN nq = W6 at ST HR BA ⊢
       have z0 : W6.cell? ⟨gA, 0, none⟩ = some (.string a.f0) := (qe BA.out 0).trans rfl
       have z1 : W6.cell? ⟨gA, 1, none⟩ = some (.int .i64 a.f1) := (qe BA.out 1).trans rfl
       have z2 : W6.cell? ⟨gA, 2, none⟩ = some (.string a.f2) := (qe BA.out 2).trans rfl
       go_wp2_with ((with_reducible refine q8 (N := 40) rfl ?_); refine Kd.R_append k83 (w0 := W6) (W := W6) w.heap.size rfl (.tmp 37) (.tmp 39) 81 83 (.agg #[(.string ⟨#[]⟩), (.int .i64 0), (.string ⟨#[]⟩)]) 40 rfl Tryz.underlying81 info83 rfl (by decide) yo (.slice (some ad) ([a0] : List S83).length c5) [a0] a [.string a.f0, .int .i64 a.f1, .string a.f2] (fun k => True ∧ k ≠ gA) (fun _ => False) rfl (by first | (go_simp; done) | (go_simp; rfl)) (k83_mkM _ _ _ a) (fun _ hk => hk.elim) (fun k hk => ⟨trivial, by have := zo BA.out; omega⟩) HR.out (Below.refl _ _) ST.out.k.1 y7 ?_; intro v1 W7 ho hb hg ho'; have hS := qd.mk (((ST.out.mono (ok' := fun k => some k ≠ (Value.slice (some ad) ([a0] : List S83).length c5).ownBlock ∧ k < W6.heap.size) (fun k _ h2 h3 => ⟨h3, h2⟩)).grown hg hb (Kd.R_base HR.out) (Kd.R_ne HR.out ST.out.b2 (by decide)) (Kd.R_ne HR.out ST.out.b3 (by decide)) (fun _ h => h.1)).mono (ok' := fun k => some k ≠ v1.ownBlock) (fun k _ _ h3 => ne_new ho' h3)); clear ST; have ST := hS; clear hS; have HR7 := qd.mk (Kd.x2 (ok' := fun _ => True) ho (fun _ _ => trivial)); clear HR; have HR := HR7; clear HR7 ho hb hg ho' z0 z1 z2 BA)
       go_roundg k2
       case measure => omega
       case rel => exact ⟨_, _, by first | rfl | simp, ⟨.inr (.inr ⟨a0, a, ha0, ha, CT.out, rfl, by have := CY.out; omega⟩), by have := hy.out.2; omega⟩, ST, HR⟩
     ·exact absurd h1 (by have := CY.out; omega)
    ·have cyb : decide (y > 0) = false := decide_eq_false cy
     have hdone := qd.mk (RI.done hy.out.1 cy)
     clear cy
     obtain ⟨A5, c5, rfl⟩ := Kd.R_slice HR.out
     obtain ⟨An, cn, rfl⟩ := Kd.S_slice ST.out.s
     have hcz : wr.cell? ⟨g3, 0, none⟩ = some (.slice An ns.length cn) := (qe ST.out.b3 0).trans rfl
     have hfz := qg ST.out.b3 0
     have LM := qd.mk (show (ns.length + 1) * 24 ≤ 140737488355328 by have := hx.out.2.2.1; have := CX.out; omega)
     go_wp2_with ((with_reducible refine q8 (N := 45) rfl ?_); refine Kd.S_append (Kd.slice 83 k83) (w0 := wr) (W := wr) w.heap.size rfl (.tmp 42) (.tmp 44) 28 81 (.slice none 0 0) 24 rfl Tryz.underlying28 infoRow rfl (by decide) yo (.slice An ns.length cn) ns r [.slice A5 r.length c5] (fun _ => True) (fun k_ => some k_ = (.slice A5 r.length c5 : Value).ownBlock) rfl rfl (Kd.M_row (Kd.x2 (Kd.R_tight rfl HR.out) (fun _ h => h))) (fun k_ hk_ => (Kd.x2 (ok' := fun k_ => True ∧ some k_ ≠ (Value.slice An ns.length cn).ownBlock) (Kd.R_apart' HR.out (Kd.S_typed ST.out.s) (by decide)) (fun k hk => ⟨trivial, hk.2⟩)).1 k_ hk_.symm) (fun _ _ => trivial) (Kd.S_mono ST.out.s (fun k_ hk => ⟨trivial, hk⟩)) (Below.refl _ _) ST.out.k.1 LM.out ?_; intro v1 W7 ho hb hg ho'; obtain ⟨ns1, hns1⟩ : ∃ x, x = ns ++ [r] := ⟨_, rfl⟩; rw [← hns1] at ho; obtain ⟨A1, c1, rfl⟩ := Kd.S_slice ho; have NS1 := qd.mk hns1; clear hns1; have hcz7 : W7.cell? ⟨g3, 0, none⟩ = some (.slice An ns.length cn) := (qe (blk_grown ST.out.b3 hg (Kd.S_ne ST.out.s ST.out.b3 (by decide))) 0).trans rfl; have hfz7 := qg (blk_grown ST.out.b3 hg (Kd.S_ne ST.out.s ST.out.b3 (by decide))) 0; have hS := qd.mk (ST.out.push hg hb ho G23.out); clear ST hcz hfz ho hb hg ho'; have ST := hS; clear hS)
     go_roundg k1
     case measure => omega
     case rel =>
      have e1 : wrap64 (x - 1) = x - 1 := by have h1 := hx.out.1; have h2 := hx.out.2.1; have h3 := hx.out.2.2.1; unfold wrap64; omega
      refine ⟨x - 1, ns1, _, by first | rfl | rw [e1], ⟨by have := CX.out; omega, by have := hx.out.2.1; omega, by rw [NS1.out, List.length_append]; have := hx.out.2.2.1; simp; omega, fun q hq => ?_⟩, ST⟩
      rw [NS1.out] at hq
      rcases List.mem_append.1 hq with hq | hq
      ·exact hx.out.2.2.2 q hq
      ·obtain rfl := List.mem_singleton.1 hq
       exact hdone.out
  ·have cxb : decide (x > 0) = false := decide_eq_false cx
   have CX := qd.mk cx
   clear cx
   obtain ⟨An, cn, rfl⟩ := Kd.S_slice ST.out.s
   have hcz : wr.cell? ⟨g3, 0, none⟩ = some (.slice An ns.length cn) := (qe ST.out.b3 0).trans rfl
   have hcz2 : wr.cell? ⟨g2, 0, none⟩ = some (.slice none 0 0) := (qe ST.out.b2 0).trans rfl
   have hfz2 := qg ST.out.b2 0
   go_wp2
   refine bodyPost_ret (results_cell_row rfl _ _ g2 30 #[.slice An ns.length cn] (0, 0) _ rfl (xo ST.out.b2 0 _ rfl) Tryz.underlying30 rfl yg) rfl ?_
   have hgw := hg.out
   have h2 := ST.out.h2
   refine ⟨_, rfl, ns, by have := hx.out.2.2.1; have := hx.out.1; omega, hx.out.2.2.2, ?_, ST.out.di.far (by show g ≠ g2; omega) _, qh ST.out.b (Nat.le_trans hw.out h2), keep_far ST.out.k h2 _⟩
   exact Kd.S_mono (Kd.S_bound (Kd.S_set ST.out.s ST.out.b2 (by decide) 0 _)) (fun k hk => by have := hk.2.1; omega)
end Go.Proofs.YtlamfnaoemingaaGreatDoor.C
end
section
namespace Go.Proofs.YtlamfnaoemingaaGreatDoor.Pl
open Go.RowKit Go.Proofs.YtlamfnaoemingaaGreatDoorW.PrintWords Go.Proofs.YtlamfnaoemingaaGreatDoor.C
set_option linter.unusedSimpArgs false
set_option linter.unusedVariables false
theorem eqA_iff (a b : S83) : eqA a b = true ↔ a.f0.toList = b.f0.toList ∧ (F a.f2).toList = (F b.f2).toList := by
 unfold eqA
 by_cases h : a.f0.toList = b.f0.toList
 ·rw [if_pos h]
  exact ⟨fun e => ⟨h, beq_iff_eq.1 e⟩, fun e => beq_iff_eq.2 e.2⟩
 ·rw [if_neg h]
  exact ⟨fun e => absurd e y7, fun e => absurd e.1 h⟩
theorem hasS_iff (l : List S83) (a : S83) : hasS l a = true ↔ ∃ b ∈ l, eqA a b = true := by unfold hasS; exact List.any_eq_true
theorem sameS_iff (a b : List S83) : sameS a b = true ↔ a.length = b.length ∧ (∀ x ∈ a, hasS b x = true) ∧ (∀ y ∈ b, hasS a y = true) := by
 unfold sameS
 rw [Bool.and_eq_true, decide_eq_true_iff, List.all_eq_true]
 constructor
 ·rintro ⟨hl, h⟩
  refine ⟨hl, fun x hx => ?_, fun y hy => ?_⟩
  ·obtain ⟨i, hi, rfl⟩ := List.getElem_of_mem hx
   have := h (a[i], b[i]) (by rw [← List.getElem_zip (h := by rw [List.length_zip]; omega)]; exact List.getElem_mem _)
   exact (Bool.and_eq_true_iff.1 this).1
  ·obtain ⟨i, hi, rfl⟩ := List.getElem_of_mem hy
   have := h (a[i], b[i]) (by rw [← List.getElem_zip (h := by rw [List.length_zip]; omega)]; exact List.getElem_mem _)
   exact (Bool.and_eq_true_iff.1 this).2
 ·rintro ⟨hl, h1, h2⟩
  refine ⟨hl, fun p hp => ?_⟩
  have := List.of_mem_zip (a := p.1) (b := p.2) hp
  rw [h1 _ this.1, h2 _ this.2]
  rfl
theorem eqA_refl (a : S83) : eqA a a = true := (eqA_iff a a).2 ⟨rfl, rfl⟩
theorem eqA_trans {a b c : S83} (h : eqA a b = true) (k : eqA b c = true) : eqA a c = true :=
 (eqA_iff a c).2 ⟨((eqA_iff a b).1 h).1.trans ((eqA_iff b c).1 k).1, ((eqA_iff a b).1 h).2.trans ((eqA_iff b c).1 k).2⟩
theorem sameS_refl (a : List S83) : sameS a a = true := (sameS_iff a a).2 ⟨rfl, fun x hx => (hasS_iff _ _).2 ⟨x, hx, eqA_refl x⟩, fun x hx => (hasS_iff _ _).2 ⟨x, hx, eqA_refl x⟩⟩
theorem sameS_symm {a b : List S83} (h : sameS a b = true) : sameS b a = true := let ⟨h0, h1, h2⟩ := (sameS_iff a b).1 h; (sameS_iff b a).2 ⟨h0.symm, h2, h1⟩
theorem hasS_trans {b c : List S83} {x : S83} (h : hasS b x = true) (k : ∀ y ∈ b, hasS c y = true) : hasS c x = true := by
 obtain ⟨y, hy, hxy⟩ := (hasS_iff _ _).1 h
 obtain ⟨z, hz, hyz⟩ := (hasS_iff _ _).1 (k y hy)
 exact (hasS_iff _ _).2 ⟨z, hz, eqA_trans hxy hyz⟩
theorem sameS_trans {a b c : List S83} (h : sameS a b = true) (k : sameS b c = true) : sameS a c = true :=
 let ⟨h0, h1, h2⟩ := (sameS_iff a b).1 h; let ⟨k0, k1, k2⟩ := (sameS_iff b c).1 k
 (sameS_iff a c).2 ⟨h0.trans k0, fun x hx => hasS_trans (h1 x hx) k1, fun z hz => hasS_trans (k2 z hz) h2⟩
theorem withinS_iff (n b : List (List S83)) : withinS n b = true ↔ b.length ≤ n.length ∧ ∀ (i : Nat) (x y : List S83), n[i]? = some x → b[i]? = some y → sameS x y = true := by
 unfold withinS
 rw [Bool.and_eq_true, decide_eq_true_iff, List.all_eq_true]
 constructor
 ·rintro ⟨hl, h⟩
  refine ⟨hl, fun i x y hx hy => ?_⟩
  obtain ⟨h1, e1⟩ := List.getElem?_eq_some_iff.1 hx
  obtain ⟨h2, e2⟩ := List.getElem?_eq_some_iff.1 hy
  exact h (x, y) (by rw [← e1, ← e2, ← List.getElem_zip (h := by rw [List.length_zip]; omega)]; exact List.getElem_mem _)
 ·rintro ⟨hl, h⟩
  refine ⟨hl, fun p hp => ?_⟩
  obtain ⟨i, hi, rfl⟩ := List.getElem_of_mem hp
  rw [List.length_zip] at hi
  rw [List.getElem_zip]
  exact h i _ _ (List.getElem?_eq_getElem yo) (List.getElem?_eq_getElem yo)
theorem matchS_iff (a b : List (List S83)) : matchS a b = true ↔ a.length = b.length ∧ withinS a b = true := by unfold matchS; rw [Bool.and_eq_true, decide_eq_true_iff]
theorem withinS_trans {a b c : List (List S83)} (h : withinS a b = true) (k : withinS b c = true) : withinS a c = true := by
 obtain ⟨h0, h1⟩ := (withinS_iff a b).1 h
 obtain ⟨k0, k1⟩ := (withinS_iff b c).1 k
 refine (withinS_iff a c).2 ⟨by omega, fun i x z hx hz => ?_⟩
 obtain ⟨hi, _⟩ := List.getElem?_eq_some_iff.1 hz
 exact sameS_trans (h1 i x _ hx (List.getElem?_eq_getElem yo)) (k1 i _ z (List.getElem?_eq_getElem yo) hz)
theorem withinS_symm {a b : List (List S83)} (hl : a.length = b.length) (h : withinS a b = true) : withinS b a = true := by
 obtain ⟨h0, h1⟩ := (withinS_iff a b).1 h
 exact (withinS_iff b a).2 ⟨by omega, fun i x y hx hy => sameS_symm (h1 i y x hy hx)⟩
theorem withinS_refl (a : List (List S83)) : withinS a a = true := (withinS_iff a a).2 ⟨Nat.le_refl _, fun i x y hx hy => by rw [hx] at hy; injection hy with hy; rw [hy]; exact sameS_refl y⟩
theorem matchS_refl (a : List (List S83)) : matchS a a = true := (matchS_iff a a).2 ⟨rfl, withinS_refl a⟩
theorem matchS_comm (a b : List (List S83)) : matchS a b = matchS b a :=
 Bool.eq_iff_iff.2 ⟨fun h => let ⟨h0, h1⟩ := (matchS_iff a b).1 h; (matchS_iff b a).2 ⟨h0.symm, withinS_symm h0 h1⟩, fun h => let ⟨h0, h1⟩ := (matchS_iff b a).1 h; (matchS_iff a b).2 ⟨h0.symm, withinS_symm h0 h1⟩⟩
theorem made12_small : ∀ a ∈ made12, a.f2.size ≤ 100 := by decide +kernel
theorem RelMade_fine {r : List S83} (h : RelMade r) : r.length ≤ 2 ∧ ∀ a ∈ r, a.f2.size ≤ 100 := by
 rcases h with ⟨a, ha, rfl⟩ | ⟨a, b, ha, hb, _, rfl⟩
 ·exact ⟨by simp, fun x hx => by obtain rfl := List.mem_singleton.1 hx; exact made12_small x ha⟩
 ·refine ⟨by simp, fun x hx => ?_⟩
  rcases List.mem_cons.1 hx with rfl | hx
  ·exact made12_small x ha
  ·obtain rfl := List.mem_singleton.1 hx
   exact made12_small x hb
def Tiny (B : Nat) (n : List (List S83)) : Prop := n.length ≤ 3 ∧ ∀ r ∈ n, r.length ≤ 2 ∧ ∀ a ∈ r, a.f2.size ≤ B
theorem Tiny.made {n : List (List S83)} (h : n.length ≤ 3) (h2 : ∀ r ∈ n, RelMade r) : Tiny 100 n := ⟨h, fun r hr => RelMade_fine (h2 r hr)⟩
theorem Tiny.fine {B : Nat} {n : List (List S83)} (h : Tiny B n) (hB : B ≤ 1000000) : FineN n := ⟨by have := h.1; omega, fun r hr => ⟨by have := (h.2 r hr).1; omega, fun a ha => by have := (h.2 r hr).2 a ha; omega⟩⟩
theorem Tiny.take {B : Nat} {n : List (List S83)} (h : Tiny B n) (j : Nat) : Tiny B (n.take j) := ⟨by rw [List.length_take]; have := h.1; omega, fun r hr => h.2 r (List.mem_of_mem_take hr)⟩
end Go.Proofs.YtlamfnaoemingaaGreatDoor.Pl
end
section
namespace Go.Proofs.YtlamfnaoemingaaGreatDoor.C
open Go.RowKit Go.Proofs.YtlamfnaoemingaaGreatDoorW.PrintWords Go.Proofs.YtlamfnaoemingaaGreatDoorW.PrintLast Go.Proofs.YtlamfnaoemingaaGreatDoorW.PrintMore Go.Proofs.YtlamfnaoemingaaGreatDoor.Pl
set_option linter.unusedVariables false
theorem at_c {P : Program} (f : FuncId) {args : Array Value} {w : World} {Q : Ending → World → Prop} (h : Calls P f args w Q) : Calls P f args w Q := h
def BoxT (T : Nat) : Prop := T = 30 ∨ T = 32
def KeepT (g : Nat) (W W' : World) : Prop := W.heap.size ≤ W'.heap.size ∧ ∀ i, i < W.heap.size → i ≠ g → (∀ cs T fr, BoxT T → W.heap[i]? ≠ some (.cells cs T fr)) → W'.heap[i]? = W.heap[i]?
theorem KeepT.of {g : Nat} {W W' : World} (h : KeepBut W W' g none) : KeepT g W W' := ⟨h.1, fun i hi hg _ => h.2 i hi hg y7⟩
theorem KeepT.trans {g : Nat} {W W1 W2 : World} (h : KeepT g W W1) (k : KeepT g W1 W2) : KeepT g W W2 :=
 ⟨Nat.le_trans h.1 k.1, fun i hi hg ht => by
  have e := h.2 i hi hg ht
  rw [← e]
  exact k.2 i (Nat.lt_of_lt_of_le hi h.1) hg (by rw [e]; exact ht)⟩
theorem KeepT.setT {g q T : Nat} (hT : BoxT T) {W : World} {cs : Array Value} {fr : Nat × Nat} (h : W.heap[q]? = some (.cells cs T fr)) (j : Nat) (u : Value) : KeepT g W (W.setCell ⟨q, j, none⟩ u) :=
 ⟨by simp [World.setCell], fun i hi hg ht => Below.heap_setCell W ⟨q, j, none⟩ u i (fun e => ht cs T fr hT (by rw [e]; exact h))⟩
theorem KeepT.set {g q : Nat} {W : World} {cs : Array Value} {fr : Nat × Nat} (h : W.heap[q]? = some (.cells cs 30 fr)) (j : Nat) (u : Value) : KeepT g W (W.setCell ⟨q, j, none⟩ u) :=
 KeepT.setT (by unfold BoxT; first | rfl | exact .inl rfl) h j u
structure NameAt (g : Nat) (W : World) (A : Option Addr) (c : Nat) (n : List (List S83)) : Prop where
 foot : ∀ W', KeepT g W W' → Kd.C (Kd.slice 83 k83) W' A n.length n
 blk : ∀ ad, A = some ad → 0 < n.length → ad.block ≠ g ∧ ad.block < W.heap.size
 cap : n.length ≤ c
theorem NameAt.now {g : Nat} {W : World} {A : Option Addr} {c : Nat} {n : List (List S83)} (h : NameAt g W A c n) : Kd.C (Kd.slice 83 k83) W A n.length n := h.foot W (KeepT.of (KeepBut.refl _ _ _))
theorem NameAt.keep {g : Nat} {W W' : World} {A : Option Addr} {c : Nat} {n : List (List S83)} (h : NameAt g W A c n) (hk : KeepT g W W') : NameAt g W' A c n :=
 ⟨fun W2 h2 => h.foot W2 (hk.trans h2), fun ad e hp => ⟨(h.blk ad e hp).1, Nat.lt_of_lt_of_le (h.blk ad e hp).2 hk.1⟩, h.cap⟩
theorem NameAt.take {g : Nat} {W : World} {A : Option Addr} {c : Nat} {n : List (List S83)} (h : NameAt g W A c n) (j : Nat) (hj : j ≤ n.length) : NameAt g W A c (n.take j) :=
 ⟨fun W2 h2 => Kd.C_take (h.foot W2 h2) hj, fun ad e hp => h.blk ad e (by rw [List.length_take] at hp; omega), by rw [List.length_take]; have := h.cap; omega⟩
theorem NameAt.of_S {g base : Nat} {W : World} {A : Option Addr} {c : Nat} {n : List (List S83)} (h : Kd.S (Kd.slice 83 k83) 81 W base (fun k => k ≠ g) (.slice A n.length c) n) : NameAt g W A c n := by
 refine ⟨fun W' hk => (Kd.S_reads' (Kd.S_step (Kd.S_bound h) (fun k ho hlt => hk.2 k hlt ho.1 (fun cs T fr hT e => by
  obtain ⟨q, hq, cells, hc⟩ := ho.2.2.2
  rw [e] at hc
  injection hc with hc
  injection hc with _ h2
  subst h2
  unfold BoxT at hT
  revert hq
  first | (subst hT; decide) | (rcases hT with hT | hT <;> subst hT <;> decide))))).2.2, fun ad e hp => ?_, (Kd.S_reads' h).2.1⟩
 subst e
 have ho : (Value.slice (some ad) n.length c).ownBlock = some ad.block := by simp [Value.ownBlock]
 exact ⟨(Kd.S_R h).1 _ ho, Kd.S_lt h _ ho⟩
theorem newT (W : World) (A : Option Addr) (c : Nat) (l : List Int) (hl : Kd.C (Kd.int .i64) W A l.length l) (hc : l.length ≤ c) (hL : l.length ≤ 140737488351232) :
  Calls Tryz.prog 13 #[.slice A l.length c] W fun e w' => ∃ g, e = .returned (.pointer (some ⟨g, 0, none⟩)) ∧ DK W w' g ∧ Below W.heap.size W w' := by
 refine (certpathmade_New.calls A c l l 0 W W (Below.refl _ _) hl hc rfl).mono ?_
 rintro e w' ⟨g, rfl, hi, hb, _⟩
 exact ⟨g, rfl, ⟨l, 0, hi, Int.le_refl _, by omega, hL⟩, hb⟩
theorem nameT (W0 W : World) {g : Nat} (hI : DK W0 W g) (hB : Below W0.heap.size W0 W) :
  Calls Tryz.prog 23 #[.pointer (some ⟨g, 0, none⟩)] W fun e w' => ∃ (B : Option Addr) (d : Nat) (m : List (List S83)), e = .returned (.agg #[.slice B m.length d]) ∧ Tiny 100 m ∧ (∀ r ∈ m, RelMade r) ∧ NameAt g w' B d m ∧ DK W0 w' g ∧ Below W0.heap.size W0 w' ∧ KeepBut W w' g none := by
 refine (name_weak g W0 W hI hB).mono ?_
 rintro e w' ⟨v, m, rfl, hl, hr, hS, hd, hb, hk⟩
 obtain ⟨B, d, rfl⟩ := Kd.S_slice hS
 exact ⟨B, d, m, rfl, Tiny.made hl hr, hr, NameAt.of_S hS, hd, hb, hk⟩
end Go.Proofs.YtlamfnaoemingaaGreatDoor.C
end
section
namespace Go.Proofs.YtlamfnaoemingaaGreatDoor.C
open Go.RowKit Go.Proofs.YtlamfnaoemingaaGreatDoorW.PrintWords Go.Proofs.YtlamfnaoemingaaGreatDoorW.PrintLast Go.Proofs.YtlamfnaoemingaaGreatDoorW.PrintMore Go.Proofs.YtlamfnaoemingaaGreatDoor.Pl
set_option linter.unusedVariables false
set_option linter.unusedSimpArgs false
def generalMails : List ByteArray := [(⟨#[97, 110, 110, 64, 101, 120, 97, 109, 112, 108, 101, 46, 111, 114, 103]⟩ : ByteArray), (⟨#[65, 78, 78, 64, 101, 120, 97, 109, 112, 108, 101, 46, 111, 114, 103]⟩ : ByteArray), (⟨#[97, 110, 110, 64, 69, 120, 97, 109, 112, 108, 101, 46, 79, 82, 71]⟩ : ByteArray), (⟨#[98, 46, 99, 64, 109, 97, 105, 108, 46, 101, 120, 97, 109, 112, 108, 101, 46, 111, 114, 103]⟩ : ByteArray), (⟨#[120, 64, 111, 114, 103]⟩ : ByteArray), (⟨#[97, 39, 98, 64, 97, 46, 98]⟩ : ByteArray)]
def generalDnss : List ByteArray := [(⟨#[101, 120, 97, 109, 112, 108, 101, 46, 111, 114, 103]⟩ : ByteArray), (⟨#[119, 119, 119, 46, 101, 120, 97, 109, 112, 108, 101, 46, 111, 114, 103]⟩ : ByteArray), (⟨#[87, 87, 87, 46, 69, 120, 97, 109, 112, 108, 101, 46, 111, 114, 103]⟩ : ByteArray), (⟨#[42, 46, 101, 120, 97, 109, 112, 108, 101, 46, 111, 114, 103]⟩ : ByteArray), (⟨#[97, 46, 98]⟩ : ByteArray), (⟨#[111, 114, 103]⟩ : ByteArray), (⟨#[109, 121, 101, 120, 97, 109, 112, 108, 101, 46, 111, 114, 103]⟩ : ByteArray)]
def generalAddrs : List ByteArray := [(⟨#[10, 0, 0, 1]⟩ : ByteArray), (⟨#[10, 1, 2, 3]⟩ : ByteArray), (⟨#[192, 168, 1, 7]⟩ : ByteArray), (⟨#[32, 1, 13, 184, 0, 0, 0, 0, 0, 0, 0, 0, 0, 0, 0, 1]⟩ : ByteArray)]
def generalMade (kd : Int) (t : ByteArray) (n : List (List S83)) : Prop := (kd = 1 ∧ t ∈ generalMails ∧ n = []) ∨ (kd = 2 ∧ t ∈ generalDnss ∧ n = []) ∨ (kd = 7 ∧ t ∈ generalAddrs ∧ n = []) ∨ (kd = 4 ∧ t = (⟨#[]⟩ : ByteArray) ∧ n.length ≤ 3 ∧ ∀ r ∈ n, RelMade r)
def baseMails : List ByteArray := [(⟨#[97, 110, 110, 64, 101, 120, 97, 109, 112, 108, 101, 46, 111, 114, 103]⟩ : ByteArray), (⟨#[101, 120, 97, 109, 112, 108, 101, 46, 111, 114, 103]⟩ : ByteArray), (⟨#[46, 101, 120, 97, 109, 112, 108, 101, 46, 111, 114, 103]⟩ : ByteArray), (⟨#[69, 88, 65, 77, 80, 76, 69, 46, 111, 114, 103]⟩ : ByteArray), (⟨#[46, 111, 114, 103]⟩ : ByteArray), (⟨#[111, 114, 103]⟩ : ByteArray), (⟨#[109, 97, 105, 108, 46, 101, 120, 97, 109, 112, 108, 101, 46, 111, 114, 103]⟩ : ByteArray)]
def baseDnss : List ByteArray := [(⟨#[101, 120, 97, 109, 112, 108, 101, 46, 111, 114, 103]⟩ : ByteArray), (⟨#[119, 119, 119, 46, 101, 120, 97, 109, 112, 108, 101, 46, 111, 114, 103]⟩ : ByteArray), (⟨#[]⟩ : ByteArray), (⟨#[69, 120, 97, 109, 112, 108, 101, 46, 79, 82, 71]⟩ : ByteArray), (⟨#[111, 114, 103]⟩ : ByteArray), (⟨#[98]⟩ : ByteArray), (⟨#[97, 46, 98]⟩ : ByteArray)]
def baseAddrs : List ByteArray := [(⟨#[10, 0, 0, 0, 255, 0, 0, 0]⟩ : ByteArray), (⟨#[10, 1, 0, 0, 255, 255, 0, 0]⟩ : ByteArray), (⟨#[0, 0, 0, 0, 0, 0, 0, 0]⟩ : ByteArray), (⟨#[10, 1, 2, 3, 255, 255, 255, 255]⟩ : ByteArray), (⟨#[32, 1, 0, 0, 0, 0, 0, 0, 0, 0, 0, 0, 0, 0, 0, 0, 255, 255, 0, 0, 0, 0, 0, 0, 0, 0, 0, 0, 0, 0, 0, 0]⟩ : ByteArray)]
def baseMade (kd : Int) (t : ByteArray) (n : List (List S83)) : Prop := (kd = 1 ∧ t ∈ baseMails ∧ n = []) ∨ (kd = 2 ∧ t ∈ baseDnss ∧ n = []) ∨ (kd = 7 ∧ t ∈ baseAddrs ∧ n = []) ∨ (kd = 4 ∧ t = (⟨#[]⟩ : ByteArray) ∧ n.length ≤ 3 ∧ ∀ r ∈ n, RelMade r)
theorem lit_get {l : List ByteArray} {W : World} {b T : Nat} {cs : Array Value} (hcs : cs = (l.map Value.string).toArray) (h : W.heap[b]? = some (.cells cs T (0, 0))) (y : Nat) (hy : y < l.length) : ∃ s, s ∈ l ∧ W.cell? ⟨b, y, none⟩ = some (.string s) := by
 subst hcs
 exact ⟨l[y], List.getElem_mem hy, by rw [qe h y]; simp [hy]⟩
theorem NameAt.none_ (g : Nat) (W : World) : NameAt g W none 0 ([] : List (List S83)) := ⟨fun _ _ => Kd.C_nil _ _, (fun _ e => by cases e), Nat.le_refl 0⟩
structure GSt (w0 w : World) (g g2 : Nat) (W : World) : Prop where
 di : DK w0 W g
 hb : Below w0.heap.size w0 W
 k : KeepBut w W g none
 b : W.heap[g2]? = some (.cells #[.int .i64 0, .string ⟨#[]⟩, .slice none 0 0] 32 (0, 0))
 h2 : w.heap.size ≤ g2
 hg : g < w.heap.size
 hw : w0.heap.size ≤ w.heap.size
section
variable {w0 w : World} {g g2 : Nat} {W W' : World}
theorem GSt.below (h : GSt w0 w g g2 W) (hb : Below W.heap.size W W') : GSt w0 w g g2 W' :=
 ⟨h.di.below hb, qf h.hb hb, KeepBut.trans h.k (KeepBut.of_below hb g none) (.inl rfl), qx h.b hb, h.h2, h.hg, h.hw⟩
theorem GSt.call (h : GSt w0 w g g2 W) (hd : DK w0 W' g) (hb : Below w0.heap.size w0 W') (hk : KeepBut W W' g none) : GSt w0 w g g2 W' :=
 ⟨hd, hb, KeepBut.trans h.k hk (.inl rfl), KeepBut.blk hk h.b (by have := h.h2; have := h.hg; omega) y7, h.h2, h.hg, h.hw⟩
theorem GSt.put (h : GSt w0 w g g2 W) (a b c : Value) :
  (((W.setCell ⟨g2, 0, none⟩ a).setCell ⟨g2, 1, none⟩ b).setCell ⟨g2, 2, none⟩ c).heap[g2]? = some (.cells #[a, b, c] 32 (0, 0)) ∧
   DK w0 (((W.setCell ⟨g2, 0, none⟩ a).setCell ⟨g2, 1, none⟩ b).setCell ⟨g2, 2, none⟩ c) g ∧ Below w0.heap.size w0 (((W.setCell ⟨g2, 0, none⟩ a).setCell ⟨g2, 1, none⟩ b).setCell ⟨g2, 2, none⟩ c) ∧ KeepBut w (((W.setCell ⟨g2, 0, none⟩ a).setCell ⟨g2, 1, none⟩ b).setCell ⟨g2, 2, none⟩ c) g none := by
 have hne : g ≠ g2 := by have := h.hg; have := h.h2; omega
 have hge : w0.heap.size ≤ g2 := Nat.le_trans h.hw h.h2
 refine ⟨xo (xo (xo h.b 0 a rfl) 1 b rfl) 2 c rfl, ((h.di.far (p := ⟨g2, 0, none⟩) hne a).far (p := ⟨g2, 1, none⟩) hne b).far (p := ⟨g2, 2, none⟩) hne c, qh (qh (qh h.hb hge) hge) hge, keep_far (keep_far (keep_far h.k h.h2 _) h.h2 _) h.h2 _⟩
end
theorem KeepT.farG {g q : Nat} {W : World} {cs : Array Value} (h : W.heap[q]? = some (.cells cs 32 (0, 0))) (j : Nat) (u : Value) : KeepT g W (W.setCell ⟨q, j, none⟩ u) := KeepT.setT (.inr rfl) h j u
set_option maxHeartbeats 8000000 in
set_option maxRecDepth 100000 in
theorem general_weak (g : Nat) (w0 w : World) (hI : DK w0 w g) (hB : Below w0.heap.size w0 w) :
  Calls Tryz.prog 18 #[.pointer (some ⟨g, 0, none⟩)] w fun e w' => ∃ (kd : Int) (t : ByteArray) (A_ : Option Addr) (c : Nat) (n : List (List S83)), e = .returned (.agg #[.int .i64 kd, .string t, .slice A_ n.length c]) ∧ generalMade kd t n ∧ NameAt g w' A_ c n ∧ DK w0 w' g ∧ Below w0.heap.size w0 w' ∧ KeepBut w w' g none := by
 have hu32 := Tryz.underlying32
 have HG := qd.mk hI.lt
 have HI := qd.mk hI
 have HB := qd.mk hB
 clear hI hB
 go_enter Tryz.func18, Tryz.ntmps18
 go_upto_region 1 with (fail)
 obtain ⟨W1, hW1⟩ : ∃ W_, W_ = w.alloc (Obj.cells #[Value.int .i64 0, Value.string ⟨#[]⟩, Value.slice none 0 0] 32) := ⟨_, rfl⟩
 rw [← hW1]
 have hb1 : Below w.heap.size w W1 := by rw [hW1]; exact qb (Below.refl _ _) _
 have ST := qd.mk (show GSt w0 w g w.heap.size W1 from ⟨HI.out.below hb1, qf HB.out hb1, KeepBut.of_below hb1 g none, by rw [hW1]; exact heap_alloc_new _ _, Nat.le_refl _, HG.out, HB.out.size⟩)
 clear hW1 hb1
 obtain ⟨g2, hg2⟩ : ∃ x, x = w.heap.size := ⟨_, rfl⟩
 rw [← hg2] at ST ⊢
 clear hg2
 go_upto_region 2 with ((with_reducible refine at_c 24 ?_); go_at_call 24; refine (ke g 4 yo yo w0 _ ST.out.di ST.out.hb).mono ?_; rintro e W2 ⟨x, rfl, hx_0, hx_1, di, hb, hk⟩; replace ST := qd.mk (ST.out.call di hb hk); clear di hb hk)
 obtain rfl | rfl | rfl | rfl : x = 0 ∨ x = 1 ∨ x = 2 ∨ x = 3 := by omega
 ·clear hx_0 hx_1
  have zc0 : W2.cell? ⟨g2, 0, none⟩ = some (.int .i64 0) := (qe ST.out.b 0).trans rfl
  go_wp2_with ((with_reducible refine at_c 24 ?_); go_at_call 24; refine (ke g 6 yo yo w0 _ (ST.out.di.below (qb (Below.refl _ _) _)) (qf ST.out.hb (qb (Below.refl _ _) _))).mono ?_; rintro e W3 ⟨y0, rfl, hy0, hy1, di, hb, hk⟩; obtain ⟨y, rfl⟩ := Int.eq_ofNat_of_zero_le hy0; have hba := qb (Below.refl W2.heap.size W2) (Obj.cells #[Value.string (⟨#[97, 110, 110, 64, 101, 120, 97, 109, 112, 108, 101, 46, 111, 114, 103]⟩ : ByteArray), Value.string (⟨#[65, 78, 78, 64, 101, 120, 97, 109, 112, 108, 101, 46, 111, 114, 103]⟩ : ByteArray), Value.string (⟨#[97, 110, 110, 64, 69, 120, 97, 109, 112, 108, 101, 46, 79, 82, 71]⟩ : ByteArray), Value.string (⟨#[98, 46, 99, 64, 109, 97, 105, 108, 46, 101, 120, 97, 109, 112, 108, 101, 46, 111, 114, 103]⟩ : ByteArray), Value.string (⟨#[120, 64, 111, 114, 103]⟩ : ByteArray), Value.string (⟨#[97, 39, 98, 64, 97, 46, 98]⟩ : ByteArray)] 9); have hlb := KeepBut.blk hk (heap_alloc_new W2 (Obj.cells #[Value.string (⟨#[97, 110, 110, 64, 101, 120, 97, 109, 112, 108, 101, 46, 111, 114, 103]⟩ : ByteArray), Value.string (⟨#[65, 78, 78, 64, 101, 120, 97, 109, 112, 108, 101, 46, 111, 114, 103]⟩ : ByteArray), Value.string (⟨#[97, 110, 110, 64, 69, 120, 97, 109, 112, 108, 101, 46, 79, 82, 71]⟩ : ByteArray), Value.string (⟨#[98, 46, 99, 64, 109, 97, 105, 108, 46, 101, 120, 97, 109, 112, 108, 101, 46, 111, 114, 103]⟩ : ByteArray), Value.string (⟨#[120, 64, 111, 114, 103]⟩ : ByteArray), Value.string (⟨#[97, 39, 98, 64, 97, 46, 98]⟩ : ByteArray)] 9)) (Nat.ne_of_gt ST.out.di.lt) y7; obtain ⟨s, hsm, hsc⟩ := lit_get (l := generalMails) (W := W3) (T := 9) rfl hlb y (show y < 6 by omega); have ST2 := qd.mk ((ST.out.below hba).call di hb hk); clear ST zc0; have ST := ST2; clear ST2; have SM := qd.mk hsm; have y1 : (0 ≤ (y : Int)) = True := eq_true yo; have y2 : ((y : Int) < 6) = True := eq_true yo; have y3 : (y < 6) = True := eq_true yo; clear di hb hk hba hlb hy0 hy1 hsm; have zc0 : W3.cell? ⟨g2, 0, none⟩ = some (.int .i64 0) := (qe ST.out.b 0).trans rfl; have zc1 : W3.cell? ⟨g2, 1, none⟩ = some (.string ⟨#[]⟩) := (qe ST.out.b 1).trans rfl; have zc2 : W3.cell? ⟨g2, 2, none⟩ = some (.slice none 0 0) := (qe ST.out.b 2).trans rfl; have zf0 := qg ST.out.b 0; have zf1 := qg ST.out.b 1; have zf2 := qg ST.out.b 2)
  have hp := ST.out.put (.int .i64 1) (.string s) (.slice none 0 0)
  refine bodyPost_ret (results_cell_row rfl _ _ g2 32 #[.int .i64 1, .string s, .slice none 0 0] (0, 0) _ rfl hp.1 Tryz.underlying32 rfl yg) rfl ?_
  exact ⟨1, s, none, 0, [], rfl, .inl ⟨rfl, SM.out, rfl⟩, NameAt.none_ g _, hp.2⟩
 ·clear hx_0 hx_1
  have zc0 : W2.cell? ⟨g2, 0, none⟩ = some (.int .i64 0) := (qe ST.out.b 0).trans rfl
  go_wp2_with ((with_reducible refine at_c 24 ?_); go_at_call 24; refine (ke g 7 yo yo w0 _ (ST.out.di.below (qb (Below.refl _ _) _)) (qf ST.out.hb (qb (Below.refl _ _) _))).mono ?_; rintro e W3 ⟨y0, rfl, hy0, hy1, di, hb, hk⟩; obtain ⟨y, rfl⟩ := Int.eq_ofNat_of_zero_le hy0; have hba := qb (Below.refl W2.heap.size W2) (Obj.cells #[Value.string (⟨#[101, 120, 97, 109, 112, 108, 101, 46, 111, 114, 103]⟩ : ByteArray), Value.string (⟨#[119, 119, 119, 46, 101, 120, 97, 109, 112, 108, 101, 46, 111, 114, 103]⟩ : ByteArray), Value.string (⟨#[87, 87, 87, 46, 69, 120, 97, 109, 112, 108, 101, 46, 111, 114, 103]⟩ : ByteArray), Value.string (⟨#[42, 46, 101, 120, 97, 109, 112, 108, 101, 46, 111, 114, 103]⟩ : ByteArray), Value.string (⟨#[97, 46, 98]⟩ : ByteArray), Value.string (⟨#[111, 114, 103]⟩ : ByteArray), Value.string (⟨#[109, 121, 101, 120, 97, 109, 112, 108, 101, 46, 111, 114, 103]⟩ : ByteArray)] 9); have hlb := KeepBut.blk hk (heap_alloc_new W2 (Obj.cells #[Value.string (⟨#[101, 120, 97, 109, 112, 108, 101, 46, 111, 114, 103]⟩ : ByteArray), Value.string (⟨#[119, 119, 119, 46, 101, 120, 97, 109, 112, 108, 101, 46, 111, 114, 103]⟩ : ByteArray), Value.string (⟨#[87, 87, 87, 46, 69, 120, 97, 109, 112, 108, 101, 46, 111, 114, 103]⟩ : ByteArray), Value.string (⟨#[42, 46, 101, 120, 97, 109, 112, 108, 101, 46, 111, 114, 103]⟩ : ByteArray), Value.string (⟨#[97, 46, 98]⟩ : ByteArray), Value.string (⟨#[111, 114, 103]⟩ : ByteArray), Value.string (⟨#[109, 121, 101, 120, 97, 109, 112, 108, 101, 46, 111, 114, 103]⟩ : ByteArray)] 9)) (Nat.ne_of_gt ST.out.di.lt) y7; obtain ⟨s, hsm, hsc⟩ := lit_get (l := generalDnss) (W := W3) (T := 9) rfl hlb y (show y < 7 by omega); have ST2 := qd.mk ((ST.out.below hba).call di hb hk); clear ST zc0; have ST := ST2; clear ST2; have SM := qd.mk hsm; have y1 : (0 ≤ (y : Int)) = True := eq_true yo; have y2 : ((y : Int) < 7) = True := eq_true yo; have y3 : (y < 7) = True := eq_true yo; clear di hb hk hba hlb hy0 hy1 hsm; have zc0 : W3.cell? ⟨g2, 0, none⟩ = some (.int .i64 0) := (qe ST.out.b 0).trans rfl; have zc1 : W3.cell? ⟨g2, 1, none⟩ = some (.string ⟨#[]⟩) := (qe ST.out.b 1).trans rfl; have zc2 : W3.cell? ⟨g2, 2, none⟩ = some (.slice none 0 0) := (qe ST.out.b 2).trans rfl; have zf0 := qg ST.out.b 0; have zf1 := qg ST.out.b 1; have zf2 := qg ST.out.b 2)
  have hp := ST.out.put (.int .i64 2) (.string s) (.slice none 0 0)
  refine bodyPost_ret (results_cell_row rfl _ _ g2 32 #[.int .i64 2, .string s, .slice none 0 0] (0, 0) _ rfl hp.1 Tryz.underlying32 rfl yg) rfl ?_
  exact ⟨2, s, none, 0, [], rfl, .inr (.inl ⟨rfl, SM.out, rfl⟩), NameAt.none_ g _, hp.2⟩
 ·clear hx_0 hx_1
  have zc0 : W2.cell? ⟨g2, 0, none⟩ = some (.int .i64 0) := (qe ST.out.b 0).trans rfl
  go_wp2_with ((with_reducible refine at_c 24 ?_); go_at_call 24; refine (ke g 4 yo yo w0 _ (ST.out.di.below (qb (Below.refl _ _) _)) (qf ST.out.hb (qb (Below.refl _ _) _))).mono ?_; rintro e W3 ⟨y0, rfl, hy0, hy1, di, hb, hk⟩; obtain ⟨y, rfl⟩ := Int.eq_ofNat_of_zero_le hy0; have hba := qb (Below.refl W2.heap.size W2) (Obj.cells #[Value.string (⟨#[10, 0, 0, 1]⟩ : ByteArray), Value.string (⟨#[10, 1, 2, 3]⟩ : ByteArray), Value.string (⟨#[192, 168, 1, 7]⟩ : ByteArray), Value.string (⟨#[32, 1, 13, 184, 0, 0, 0, 0, 0, 0, 0, 0, 0, 0, 0, 1]⟩ : ByteArray)] 9); have hlb := KeepBut.blk hk (heap_alloc_new W2 (Obj.cells #[Value.string (⟨#[10, 0, 0, 1]⟩ : ByteArray), Value.string (⟨#[10, 1, 2, 3]⟩ : ByteArray), Value.string (⟨#[192, 168, 1, 7]⟩ : ByteArray), Value.string (⟨#[32, 1, 13, 184, 0, 0, 0, 0, 0, 0, 0, 0, 0, 0, 0, 1]⟩ : ByteArray)] 9)) (Nat.ne_of_gt ST.out.di.lt) y7; obtain ⟨s, hsm, hsc⟩ := lit_get (l := generalAddrs) (W := W3) (T := 9) rfl hlb y (show y < 4 by omega); have ST2 := qd.mk ((ST.out.below hba).call di hb hk); clear ST zc0; have ST := ST2; clear ST2; have SM := qd.mk hsm; have y1 : (0 ≤ (y : Int)) = True := eq_true yo; have y2 : ((y : Int) < 4) = True := eq_true yo; have y3 : (y < 4) = True := eq_true yo; clear di hb hk hba hlb hy0 hy1 hsm; have zc0 : W3.cell? ⟨g2, 0, none⟩ = some (.int .i64 0) := (qe ST.out.b 0).trans rfl; have zc1 : W3.cell? ⟨g2, 1, none⟩ = some (.string ⟨#[]⟩) := (qe ST.out.b 1).trans rfl; have zc2 : W3.cell? ⟨g2, 2, none⟩ = some (.slice none 0 0) := (qe ST.out.b 2).trans rfl; have zf0 := qg ST.out.b 0; have zf1 := qg ST.out.b 1; have zf2 := qg ST.out.b 2)
  have hp := ST.out.put (.int .i64 7) (.string s) (.slice none 0 0)
  refine bodyPost_ret (results_cell_row rfl _ _ g2 32 #[.int .i64 7, .string s, .slice none 0 0] (0, 0) _ rfl hp.1 Tryz.underlying32 rfl yg) rfl ?_
  exact ⟨7, s, none, 0, [], rfl, .inr (.inr (.inl ⟨rfl, SM.out, rfl⟩)), NameAt.none_ g _, hp.2⟩
 ·clear hx_0 hx_1
  go_wp2_with ((with_reducible refine at_c 23 ?_); go_at_call 23; refine (nameT w0 _ ST.out.di ST.out.hb).mono ?_; rintro e W3 ⟨A_, c, n, rfl, ti, rm, na, di, hb, hk⟩; have NA := qd.mk na; have RM := qd.mk rm; have TI := qd.mk ti; replace ST := qd.mk (ST.out.call di hb hk); clear ti rm na di hb hk; have zc0 : W3.cell? ⟨g2, 0, none⟩ = some (.int .i64 0) := (qe ST.out.b 0).trans rfl; have zc1 : W3.cell? ⟨g2, 1, none⟩ = some (.string ⟨#[]⟩) := (qe ST.out.b 1).trans rfl; have zc2 : W3.cell? ⟨g2, 2, none⟩ = some (.slice none 0 0) := (qe ST.out.b 2).trans rfl; have zf0 := qg ST.out.b 0; have zf1 := qg ST.out.b 1; have zf2 := qg ST.out.b 2)
  have hp := ST.out.put (.int .i64 4) (.string ⟨#[]⟩) (.slice A_ n.length c)
  have na := ((NA.out.keep (KeepT.farG ST.out.b 0 _)).keep (KeepT.farG (xo ST.out.b 0 (.int .i64 4) rfl) 1 (.string ⟨#[]⟩))).keep (KeepT.farG (xo (xo ST.out.b 0 (.int .i64 4) rfl) 1 (.string ⟨#[]⟩) rfl) 2 (.slice A_ n.length c))
  refine bodyPost_ret (results_cell_row rfl _ _ g2 32 #[.int .i64 4, .string ⟨#[]⟩, .slice A_ n.length c] (0, 0) _ rfl hp.1 Tryz.underlying32 rfl yg) rfl ?_
  exact ⟨4, ⟨#[]⟩, A_, c, n, rfl, .inr (.inr (.inr ⟨rfl, rfl, TI.out.1, RM.out⟩)), na, hp.2⟩
set_option maxHeartbeats 8000000 in
set_option maxRecDepth 100000 in
theorem base_weak (g : Nat) (w0 w : World) (hI : DK w0 w g) (hB : Below w0.heap.size w0 w) :
  Calls Tryz.prog 19 #[.pointer (some ⟨g, 0, none⟩)] w fun e w' => ∃ (kd : Int) (t : ByteArray) (A_ : Option Addr) (c : Nat) (n : List (List S83)), e = .returned (.agg #[.int .i64 kd, .string t, .slice A_ n.length c]) ∧ baseMade kd t n ∧ NameAt g w' A_ c n ∧ DK w0 w' g ∧ Below w0.heap.size w0 w' ∧ KeepBut w w' g none := by
 have hu32 := Tryz.underlying32
 have HG := qd.mk hI.lt
 have HI := qd.mk hI
 have HB := qd.mk hB
 clear hI hB
 go_enter Tryz.func19, Tryz.ntmps19
 go_upto_region 1 with (fail)
 obtain ⟨W1, hW1⟩ : ∃ W_, W_ = w.alloc (Obj.cells #[Value.int .i64 0, Value.string ⟨#[]⟩, Value.slice none 0 0] 32) := ⟨_, rfl⟩
 rw [← hW1]
 have hb1 : Below w.heap.size w W1 := by rw [hW1]; exact qb (Below.refl _ _) _
 have ST := qd.mk (show GSt w0 w g w.heap.size W1 from ⟨HI.out.below hb1, qf HB.out hb1, KeepBut.of_below hb1 g none, by rw [hW1]; exact heap_alloc_new _ _, Nat.le_refl _, HG.out, HB.out.size⟩)
 clear hW1 hb1
 obtain ⟨g2, hg2⟩ : ∃ x, x = w.heap.size := ⟨_, rfl⟩
 rw [← hg2] at ST ⊢
 clear hg2
 go_upto_region 2 with ((with_reducible refine at_c 24 ?_); go_at_call 24; refine (ke g 4 yo yo w0 _ ST.out.di ST.out.hb).mono ?_; rintro e W2 ⟨x, rfl, hx_0, hx_1, di, hb, hk⟩; replace ST := qd.mk (ST.out.call di hb hk); clear di hb hk)
 obtain rfl | rfl | rfl | rfl : x = 0 ∨ x = 1 ∨ x = 2 ∨ x = 3 := by omega
 ·clear hx_0 hx_1
  have zc0 : W2.cell? ⟨g2, 0, none⟩ = some (.int .i64 0) := (qe ST.out.b 0).trans rfl
  go_wp2_with ((with_reducible refine at_c 24 ?_); go_at_call 24; refine (ke g 7 yo yo w0 _ (ST.out.di.below (qb (Below.refl _ _) _)) (qf ST.out.hb (qb (Below.refl _ _) _))).mono ?_; rintro e W3 ⟨y0, rfl, hy0, hy1, di, hb, hk⟩; obtain ⟨y, rfl⟩ := Int.eq_ofNat_of_zero_le hy0; have hba := qb (Below.refl W2.heap.size W2) (Obj.cells #[Value.string (⟨#[97, 110, 110, 64, 101, 120, 97, 109, 112, 108, 101, 46, 111, 114, 103]⟩ : ByteArray), Value.string (⟨#[101, 120, 97, 109, 112, 108, 101, 46, 111, 114, 103]⟩ : ByteArray), Value.string (⟨#[46, 101, 120, 97, 109, 112, 108, 101, 46, 111, 114, 103]⟩ : ByteArray), Value.string (⟨#[69, 88, 65, 77, 80, 76, 69, 46, 111, 114, 103]⟩ : ByteArray), Value.string (⟨#[46, 111, 114, 103]⟩ : ByteArray), Value.string (⟨#[111, 114, 103]⟩ : ByteArray), Value.string (⟨#[109, 97, 105, 108, 46, 101, 120, 97, 109, 112, 108, 101, 46, 111, 114, 103]⟩ : ByteArray)] 9); have hlb := KeepBut.blk hk (heap_alloc_new W2 (Obj.cells #[Value.string (⟨#[97, 110, 110, 64, 101, 120, 97, 109, 112, 108, 101, 46, 111, 114, 103]⟩ : ByteArray), Value.string (⟨#[101, 120, 97, 109, 112, 108, 101, 46, 111, 114, 103]⟩ : ByteArray), Value.string (⟨#[46, 101, 120, 97, 109, 112, 108, 101, 46, 111, 114, 103]⟩ : ByteArray), Value.string (⟨#[69, 88, 65, 77, 80, 76, 69, 46, 111, 114, 103]⟩ : ByteArray), Value.string (⟨#[46, 111, 114, 103]⟩ : ByteArray), Value.string (⟨#[111, 114, 103]⟩ : ByteArray), Value.string (⟨#[109, 97, 105, 108, 46, 101, 120, 97, 109, 112, 108, 101, 46, 111, 114, 103]⟩ : ByteArray)] 9)) (Nat.ne_of_gt ST.out.di.lt) y7; obtain ⟨s, hsm, hsc⟩ := lit_get (l := baseMails) (W := W3) (T := 9) rfl hlb y (show y < 7 by omega); have ST2 := qd.mk ((ST.out.below hba).call di hb hk); clear ST zc0; have ST := ST2; clear ST2; have SM := qd.mk hsm; have y1 : (0 ≤ (y : Int)) = True := eq_true yo; have y2 : ((y : Int) < 7) = True := eq_true yo; have y3 : (y < 7) = True := eq_true yo; clear di hb hk hba hlb hy0 hy1 hsm; have zc0 : W3.cell? ⟨g2, 0, none⟩ = some (.int .i64 0) := (qe ST.out.b 0).trans rfl; have zc1 : W3.cell? ⟨g2, 1, none⟩ = some (.string ⟨#[]⟩) := (qe ST.out.b 1).trans rfl; have zc2 : W3.cell? ⟨g2, 2, none⟩ = some (.slice none 0 0) := (qe ST.out.b 2).trans rfl; have zf0 := qg ST.out.b 0; have zf1 := qg ST.out.b 1; have zf2 := qg ST.out.b 2)
  have hp := ST.out.put (.int .i64 1) (.string s) (.slice none 0 0)
  refine bodyPost_ret (results_cell_row rfl _ _ g2 32 #[.int .i64 1, .string s, .slice none 0 0] (0, 0) _ rfl hp.1 Tryz.underlying32 rfl yg) rfl ?_
  exact ⟨1, s, none, 0, [], rfl, .inl ⟨rfl, SM.out, rfl⟩, NameAt.none_ g _, hp.2⟩
 ·clear hx_0 hx_1
  have zc0 : W2.cell? ⟨g2, 0, none⟩ = some (.int .i64 0) := (qe ST.out.b 0).trans rfl
  go_wp2_with ((with_reducible refine at_c 24 ?_); go_at_call 24; refine (ke g 7 yo yo w0 _ (ST.out.di.below (qb (Below.refl _ _) _)) (qf ST.out.hb (qb (Below.refl _ _) _))).mono ?_; rintro e W3 ⟨y0, rfl, hy0, hy1, di, hb, hk⟩; obtain ⟨y, rfl⟩ := Int.eq_ofNat_of_zero_le hy0; have hba := qb (Below.refl W2.heap.size W2) (Obj.cells #[Value.string (⟨#[101, 120, 97, 109, 112, 108, 101, 46, 111, 114, 103]⟩ : ByteArray), Value.string (⟨#[119, 119, 119, 46, 101, 120, 97, 109, 112, 108, 101, 46, 111, 114, 103]⟩ : ByteArray), Value.string (⟨#[]⟩ : ByteArray), Value.string (⟨#[69, 120, 97, 109, 112, 108, 101, 46, 79, 82, 71]⟩ : ByteArray), Value.string (⟨#[111, 114, 103]⟩ : ByteArray), Value.string (⟨#[98]⟩ : ByteArray), Value.string (⟨#[97, 46, 98]⟩ : ByteArray)] 9); have hlb := KeepBut.blk hk (heap_alloc_new W2 (Obj.cells #[Value.string (⟨#[101, 120, 97, 109, 112, 108, 101, 46, 111, 114, 103]⟩ : ByteArray), Value.string (⟨#[119, 119, 119, 46, 101, 120, 97, 109, 112, 108, 101, 46, 111, 114, 103]⟩ : ByteArray), Value.string (⟨#[]⟩ : ByteArray), Value.string (⟨#[69, 120, 97, 109, 112, 108, 101, 46, 79, 82, 71]⟩ : ByteArray), Value.string (⟨#[111, 114, 103]⟩ : ByteArray), Value.string (⟨#[98]⟩ : ByteArray), Value.string (⟨#[97, 46, 98]⟩ : ByteArray)] 9)) (Nat.ne_of_gt ST.out.di.lt) y7; obtain ⟨s, hsm, hsc⟩ := lit_get (l := baseDnss) (W := W3) (T := 9) rfl hlb y (show y < 7 by omega); have ST2 := qd.mk ((ST.out.below hba).call di hb hk); clear ST zc0; have ST := ST2; clear ST2; have SM := qd.mk hsm; have y1 : (0 ≤ (y : Int)) = True := eq_true yo; have y2 : ((y : Int) < 7) = True := eq_true yo; have y3 : (y < 7) = True := eq_true yo; clear di hb hk hba hlb hy0 hy1 hsm; have zc0 : W3.cell? ⟨g2, 0, none⟩ = some (.int .i64 0) := (qe ST.out.b 0).trans rfl; have zc1 : W3.cell? ⟨g2, 1, none⟩ = some (.string ⟨#[]⟩) := (qe ST.out.b 1).trans rfl; have zc2 : W3.cell? ⟨g2, 2, none⟩ = some (.slice none 0 0) := (qe ST.out.b 2).trans rfl; have zf0 := qg ST.out.b 0; have zf1 := qg ST.out.b 1; have zf2 := qg ST.out.b 2)
  have hp := ST.out.put (.int .i64 2) (.string s) (.slice none 0 0)
  refine bodyPost_ret (results_cell_row rfl _ _ g2 32 #[.int .i64 2, .string s, .slice none 0 0] (0, 0) _ rfl hp.1 Tryz.underlying32 rfl yg) rfl ?_
  exact ⟨2, s, none, 0, [], rfl, .inr (.inl ⟨rfl, SM.out, rfl⟩), NameAt.none_ g _, hp.2⟩
 ·clear hx_0 hx_1
  have zc0 : W2.cell? ⟨g2, 0, none⟩ = some (.int .i64 0) := (qe ST.out.b 0).trans rfl
  go_wp2_with ((with_reducible refine at_c 24 ?_); go_at_call 24; refine (ke g 5 yo yo w0 _ (ST.out.di.below (qb (Below.refl _ _) _)) (qf ST.out.hb (qb (Below.refl _ _) _))).mono ?_; rintro e W3 ⟨y0, rfl, hy0, hy1, di, hb, hk⟩; obtain ⟨y, rfl⟩ := Int.eq_ofNat_of_zero_le hy0; have hba := qb (Below.refl W2.heap.size W2) (Obj.cells #[Value.string (⟨#[10, 0, 0, 0, 255, 0, 0, 0]⟩ : ByteArray), Value.string (⟨#[10, 1, 0, 0, 255, 255, 0, 0]⟩ : ByteArray), Value.string (⟨#[0, 0, 0, 0, 0, 0, 0, 0]⟩ : ByteArray), Value.string (⟨#[10, 1, 2, 3, 255, 255, 255, 255]⟩ : ByteArray), Value.string (⟨#[32, 1, 0, 0, 0, 0, 0, 0, 0, 0, 0, 0, 0, 0, 0, 0, 255, 255, 0, 0, 0, 0, 0, 0, 0, 0, 0, 0, 0, 0, 0, 0]⟩ : ByteArray)] 9); have hlb := KeepBut.blk hk (heap_alloc_new W2 (Obj.cells #[Value.string (⟨#[10, 0, 0, 0, 255, 0, 0, 0]⟩ : ByteArray), Value.string (⟨#[10, 1, 0, 0, 255, 255, 0, 0]⟩ : ByteArray), Value.string (⟨#[0, 0, 0, 0, 0, 0, 0, 0]⟩ : ByteArray), Value.string (⟨#[10, 1, 2, 3, 255, 255, 255, 255]⟩ : ByteArray), Value.string (⟨#[32, 1, 0, 0, 0, 0, 0, 0, 0, 0, 0, 0, 0, 0, 0, 0, 255, 255, 0, 0, 0, 0, 0, 0, 0, 0, 0, 0, 0, 0, 0, 0]⟩ : ByteArray)] 9)) (Nat.ne_of_gt ST.out.di.lt) y7; obtain ⟨s, hsm, hsc⟩ := lit_get (l := baseAddrs) (W := W3) (T := 9) rfl hlb y (show y < 5 by omega); have ST2 := qd.mk ((ST.out.below hba).call di hb hk); clear ST zc0; have ST := ST2; clear ST2; have SM := qd.mk hsm; have y1 : (0 ≤ (y : Int)) = True := eq_true yo; have y2 : ((y : Int) < 5) = True := eq_true yo; have y3 : (y < 5) = True := eq_true yo; clear di hb hk hba hlb hy0 hy1 hsm; have zc0 : W3.cell? ⟨g2, 0, none⟩ = some (.int .i64 0) := (qe ST.out.b 0).trans rfl; have zc1 : W3.cell? ⟨g2, 1, none⟩ = some (.string ⟨#[]⟩) := (qe ST.out.b 1).trans rfl; have zc2 : W3.cell? ⟨g2, 2, none⟩ = some (.slice none 0 0) := (qe ST.out.b 2).trans rfl; have zf0 := qg ST.out.b 0; have zf1 := qg ST.out.b 1; have zf2 := qg ST.out.b 2)
  have hp := ST.out.put (.int .i64 7) (.string s) (.slice none 0 0)
  refine bodyPost_ret (results_cell_row rfl _ _ g2 32 #[.int .i64 7, .string s, .slice none 0 0] (0, 0) _ rfl hp.1 Tryz.underlying32 rfl yg) rfl ?_
  exact ⟨7, s, none, 0, [], rfl, .inr (.inr (.inl ⟨rfl, SM.out, rfl⟩)), NameAt.none_ g _, hp.2⟩
 ·clear hx_0 hx_1
  go_wp2_with ((with_reducible refine at_c 23 ?_); go_at_call 23; refine (nameT w0 _ ST.out.di ST.out.hb).mono ?_; rintro e W3 ⟨A_, c, n, rfl, ti, rm, na, di, hb, hk⟩; have NA := qd.mk na; have RM := qd.mk rm; have TI := qd.mk ti; replace ST := qd.mk (ST.out.call di hb hk); clear ti rm na di hb hk; have zc0 : W3.cell? ⟨g2, 0, none⟩ = some (.int .i64 0) := (qe ST.out.b 0).trans rfl; have zc1 : W3.cell? ⟨g2, 1, none⟩ = some (.string ⟨#[]⟩) := (qe ST.out.b 1).trans rfl; have zc2 : W3.cell? ⟨g2, 2, none⟩ = some (.slice none 0 0) := (qe ST.out.b 2).trans rfl; have zf0 := qg ST.out.b 0; have zf1 := qg ST.out.b 1; have zf2 := qg ST.out.b 2)
  have hp := ST.out.put (.int .i64 4) (.string ⟨#[]⟩) (.slice A_ n.length c)
  have na := ((NA.out.keep (KeepT.farG ST.out.b 0 _)).keep (KeepT.farG (xo ST.out.b 0 (.int .i64 4) rfl) 1 (.string ⟨#[]⟩))).keep (KeepT.farG (xo (xo ST.out.b 0 (.int .i64 4) rfl) 1 (.string ⟨#[]⟩) rfl) 2 (.slice A_ n.length c))
  refine bodyPost_ret (results_cell_row rfl _ _ g2 32 #[.int .i64 4, .string ⟨#[]⟩, .slice A_ n.length c] (0, 0) _ rfl hp.1 Tryz.underlying32 rfl yg) rfl ?_
  exact ⟨4, ⟨#[]⟩, A_, c, n, rfl, .inr (.inr (.inr ⟨rfl, rfl, TI.out.1, RM.out⟩)), na, hp.2⟩
end Go.Proofs.YtlamfnaoemingaaGreatDoor.C
end
section
namespace Go.Proofs.YtlamfnaoemingaaGreatDoor.C
open Go.RowKit Go.Proofs.YtlamfnaoemingaaGreatDoorW.PrintWords Go.Proofs.YtlamfnaoemingaaGreatDoorW.PrintLast Go.Proofs.YtlamfnaoemingaaGreatDoorW.PrintMore Go.Proofs.YtlamfnaoemingaaGreatDoor.Pl
set_option linter.unusedVariables false
set_option linter.unusedSimpArgs false
def exA : ByteArray := ⟨#[97, 46, 98]⟩
def exP : ByteArray := ⟨#[42, 46, 101, 120, 97, 109, 112, 108, 101, 46, 111, 114, 103]⟩
def exW : ByteArray := ⟨#[119, 119, 119, 46, 101, 120, 97, 109, 112, 108, 101, 46, 111, 114, 103]⟩
theorem exA_pat : zf.f 60 exA = some true := by kernel_rfl
theorem exA_enc : zk.f 60 130 [exA] = some ((⟨#[130, 3, 97, 46, 98]⟩ : ByteArray), 0) := by kernel_rfl
theorem exP_match : q5.f 60 exP exW = some true := by kernel_rfl
theorem one_str (W : World) (s : ByteArray) : Kd.C Kd.string (W.alloc (Obj.cells #[.string s] 9)) (some ⟨W.heap.size, 0, none⟩) ([s] : List ByteArray).length [s] := by
 refine ⟨rfl, by simp, fun _ => ⟨_, rfl, fun j p hj => ⟨[.string p], rfl, rfl, fun i u hu => ?_⟩⟩⟩
 match i, hu with
 | 0, hu =>
  obtain rfl : Value.string p = u := by simpa using hu
  rw [show j * Kd.string.sz + 0 = j from by rw [show Kd.string.sz = 1 from rfl, Nat.mul_one, Nat.add_zero], show (⟨W.heap.size, 0, none⟩ : Addr).add j = ⟨W.heap.size, j, none⟩ from add_plain W.heap.size j, qe (heap_alloc_new W (Obj.cells #[.string s] 9)) j]
  match j, hj with
  | 0, hj =>
   obtain rfl : s = p := by simpa using hj
   rfl
  | j + 1, hj => simp at hj
 | i + 1, hu => simp at hu
set_option maxRecDepth 100000 in
theorem valid_c (s : ByteArray) (k : Nat) (h : zf.f k s = some true) (w : World) (hG : LibHeld w) : Calls Tryz.prog 67 #[.int .i64 1, .string s, .bool false] w fun e w' => e = .returned (.bool true) ∧ Below w.heap.size w w' := by
 have HP := qd.mk h
 have HG := qd.mk hG
 clear h hG
 go_enter Tryz.func67, Tryz.ntmps67
 go_wp2_with ((with_reducible refine at_c 107 ?_); go_at_call 107; (with_reducible refine (zf.calls k s true _ HG.out HP.out).mono ?_); rintro e w1 ⟨rfl, hq⟩; have HB := qd.mk hq; clear hq)
 go_ret
 exact ⟨rfl, HB.out⟩
set_option maxRecDepth 100000 in
theorem check_c (s : ByteArray) (k : Nat) (h : zf.f k s = some true) (w : World) (hG : LibHeld w) : Calls Tryz.prog 37 #[.agg #[.int .i64 2, .string s, .slice none 0 0], .bool false] w fun e w' => e = .returned (.int .i64 0) ∧ Below w.heap.size w w' := by
 have hu32 := Tryz.underlying32
 have hu30 := Tryz.underlying30
 have HP := qd.mk h
 have HG := qd.mk hG
 clear h hG
 go_enter Tryz.func37, Tryz.ntmps37
 go_upto_region 1 with (fail)
 obtain ⟨W1, hW1⟩ : ∃ W_, W_ = w.alloc (Obj.cells #[Value.int .i64 2, Value.string s, Value.slice none 0 0] 32) := ⟨_, rfl⟩
 rw [← hW1]
 have HB := qd.mk (show Below w.heap.size w W1 by rw [hW1]; exact qb (Below.refl _ _) _)
 have BK := qd.mk (show W1.heap[w.heap.size]? = some (.cells #[.int .i64 2, .string s, .slice none 0 0] 32 (0, 0)) by rw [hW1]; exact heap_alloc_new _ _)
 clear hW1
 obtain ⟨gx, hgx⟩ : ∃ x, x = w.heap.size := ⟨_, rfl⟩
 rw [← hgx] at BK ⊢
 clear hgx
 have z0 : W1.cell? ⟨gx, 0, none⟩ = some (.int .i64 2) := (qe BK.out 0).trans rfl
 go_upto_region 2 with ((with_reducible refine at_c 65 ?_); go_at_call 65; refine (xj.calls 2 1 _ (by rfl)).mono ?_; rintro e W2 ⟨rfl, hq⟩; have hq2 := hq.below; replace HB := qd.mk (qf HB.out hq2); replace BK := qd.mk (qx BK.out hq2); clear hq hq2)
 clear z0
 rename World => W2
 have z1 : W2.cell? ⟨gx, 1, none⟩ = some (.string s) := (qe BK.out 1).trans rfl
 have z2 : W2.cell? ⟨gx, 2, none⟩ = some (.slice none 0 0) := (qe BK.out 2).trans rfl
 go_wp2_with ((with_reducible refine at_c 67 ?_); go_at_call 67; (with_reducible refine (valid_c s k HP.out _ (LibHeld.below HG.out HB.out)).mono ?_); rintro e w1 ⟨rfl, hq⟩; replace HB := qd.mk (qf HB.out hq); clear hq)
 go_ret
 exact ⟨rfl, HB.out⟩
set_option maxRecDepth 100000 in
theorem enc_c (s o : ByteArray) (k : Nat) (h : zf.f k s = some true) (he : zk.f k 130 [s] = some (o, 0)) (w : World) (hG : LibHeld w) : Calls Tryz.prog 35 #[.agg #[.int .i64 2, .string s, .slice none 0 0], .bool false] w fun e w' => e = .returned (.tuple #[.string o, .int .i64 0]) ∧ Below w.heap.size w w' := by
 have hu32 := Tryz.underlying32
 have hu30 := Tryz.underlying30
 have HP := qd.mk h
 have HE := qd.mk he
 have HG := qd.mk hG
 clear h he hG
 go_enter Tryz.func35, Tryz.ntmps35
 go_upto_region 1 with (fail)
 obtain ⟨W1, hW1⟩ : ∃ W_, W_ = w.alloc (Obj.cells #[Value.int .i64 2, Value.string s, Value.slice none 0 0] 32) := ⟨_, rfl⟩
 rw [← hW1]
 have HB := qd.mk (show Below w.heap.size w W1 by rw [hW1]; exact qb (Below.refl _ _) _)
 have BK := qd.mk (show W1.heap[w.heap.size]? = some (.cells #[.int .i64 2, .string s, .slice none 0 0] 32 (0, 0)) by rw [hW1]; exact heap_alloc_new _ _)
 clear hW1
 obtain ⟨gx, hgx⟩ : ∃ x, x = w.heap.size := ⟨_, rfl⟩
 rw [← hgx] at BK ⊢
 clear hgx
 have z0 : W1.cell? ⟨gx, 0, none⟩ = some (.int .i64 2) := (qe BK.out 0).trans rfl
 have z1 : W1.cell? ⟨gx, 1, none⟩ = some (.string s) := (qe BK.out 1).trans rfl
 have z2 : W1.cell? ⟨gx, 2, none⟩ = some (.slice none 0 0) := (qe BK.out 2).trans rfl
 go_upto_region 2 with ((with_reducible refine at_c 37 ?_); go_at_call 37; (with_reducible refine (check_c s k HP.out _ (LibHeld.below HG.out HB.out)).mono ?_); rintro e W2 ⟨rfl, hq⟩; replace HB := qd.mk (qf HB.out hq); replace BK := qd.mk (qx BK.out hq); clear hq)
 clear z0 z1 z2
 rename World => W2
 have z0 : W2.cell? ⟨gx, 0, none⟩ = some (.int .i64 2) := (qe BK.out 0).trans rfl
 have z1 : W2.cell? ⟨gx, 1, none⟩ = some (.string s) := (qe BK.out 1).trans rfl
 go_wp2_with ((with_reducible refine at_c 61 ?_); go_at_call 61; refine (zk.calls k 130 (some ⟨W2.heap.size, 0, none⟩) 1 [s] o 0 _ (one_str W2 s) (Nat.le_refl 1) HE.out).mono ?_; rintro e w1 ⟨rfl, hq⟩; have HB1 := qd.mk (qf (qb HB.out (Obj.cells #[.string s] 9)) hq); clear hq)
 go_ret2
 exact ⟨rfl, HB1.out⟩
set_option maxRecDepth 100000 in
theorem match_c (p s : ByteArray) (k : Nat) (h : q5.f k p s = some true) (w : World) (hG : LibHeld w) : Calls Tryz.prog 41 #[.agg #[.int .i64 2, .string p, .slice none 0 0], .agg #[.int .i64 2, .string s, .slice none 0 0]] w fun e w' => e = .returned (.bool true) ∧ Below w.heap.size w w' := by
 have hu32 := Tryz.underlying32
 have HP := qd.mk h
 have HG := qd.mk hG
 clear h hG
 go_enter Tryz.func41, Tryz.ntmps41
 go_upto_region 1 with (fail)
 obtain ⟨W1, hW1⟩ : ∃ W_, W_ = (w.alloc (Obj.cells #[Value.int .i64 2, Value.string p, Value.slice none 0 0] 32)).alloc (Obj.cells #[Value.int .i64 2, Value.string s, Value.slice none 0 0] 32) := ⟨_, rfl⟩
 rw [← hW1]
 have HB := qd.mk (show Below w.heap.size w W1 by rw [hW1]; exact qb (qb (Below.refl _ _) _) _)
 have BK := qd.mk (show W1.heap[w.heap.size]? = some (.cells #[.int .i64 2, .string p, .slice none 0 0] 32 (0, 0)) by rw [hW1]; exact ql (heap_alloc_new w _) _)
 have BL := qd.mk (show W1.heap[w.heap.size + 1]? = some (.cells #[.int .i64 2, .string s, .slice none 0 0] 32 (0, 0)) by rw [hW1]; simpa using heap_alloc_new (w.alloc (Obj.cells #[Value.int .i64 2, Value.string p, Value.slice none 0 0] 32)) (Obj.cells #[Value.int .i64 2, Value.string s, Value.slice none 0 0] 32))
 clear hW1
 generalize w.heap.size + 1 = gy at BL ⊢
 obtain ⟨gx, hgx⟩ : ∃ x, x = w.heap.size := ⟨_, rfl⟩
 rw [← hgx] at BK ⊢
 clear hgx
 have z0 : W1.cell? ⟨gx, 0, none⟩ = some (.int .i64 2) := (qe BK.out 0).trans rfl
 have z1 : W1.cell? ⟨gx, 1, none⟩ = some (.string p) := (qe BK.out 1).trans rfl
 have y0 : W1.cell? ⟨gy, 0, none⟩ = some (.int .i64 2) := (qe BL.out 0).trans rfl
 have y1 : W1.cell? ⟨gy, 1, none⟩ = some (.string s) := (qe BL.out 1).trans rfl
 go_wp2_with ((with_reducible refine at_c 82 ?_); go_at_call 82; (with_reducible refine (q5.calls k p s true _ (LibHeld.below HG.out HB.out) HP.out).mono ?_); rintro e w1 ⟨rfl, hq⟩; replace HB := qd.mk (qf HB.out hq); clear hq)
 go_ret
 exact ⟨rfl, HB.out⟩
set_option maxRecDepth 100000 in
theorem awake9 (w : World) (hG : LibHeld w) : Calls Tryz.prog 33 #[] w fun e w' => e = .returned (.bool true) ∧ Below w.heap.size w w' := by
 have hu32 := Tryz.underlying32
 have HG := qd.mk hG
 clear hG
 go_enter Tryz.func33, Tryz.ntmps33
 go_wp2_with (first | ((with_reducible refine at_c 35 ?_); go_at_call 35; refine (enc_c exA _ 60 exA_pat exA_enc _ HG.out).mono ?_; rintro e w1 ⟨rfl, hq⟩; have HB := qd.mk hq; clear hq) | ((with_reducible refine at_c 41 ?_); go_at_call 41; refine (match_c exP exW 60 exP_match _ (LibHeld.below HG.out HB.out)).mono ?_; rintro e w2 ⟨rfl, hq⟩; replace HB := qd.mk (qf HB.out hq); clear hq))
 go_ret
 exact ⟨rfl, HB.out⟩
end Go.Proofs.YtlamfnaoemingaaGreatDoor.C
end
section
namespace Go.Proofs.YtlamfnaoemingaaGreatDoor.Pl
open Go.RowKit Go.Proofs.YtlamfnaoemingaaGreatDoorW.PrintWords Go.Proofs.YtlamfnaoemingaaGreatDoor.C
set_option linter.unusedVariables false
set_option linter.unusedSimpArgs false
set_option maxRecDepth 100000
def lowBA (t : ByteArray) : ByteArray := strOfNums ((bytesOf t).map lowC)
def dnsAll : List ByteArray := generalDnss ++ generalDnss.map lowBA
def GM (kd : Int) (t : ByteArray) (n : List (List S83)) : Prop := (kd = 1 ∧ t ∈ generalMails ∧ n = []) ∨ (kd = 2 ∧ t ∈ dnsAll ∧ n = []) ∨ (kd = 7 ∧ t ∈ generalAddrs ∧ n = []) ∨ (kd = 4 ∧ t = (⟨#[]⟩ : ByteArray) ∧ n.length ≤ 3 ∧ ∀ r ∈ n, RelMade r)
theorem GM.made {kd : Int} {t : ByteArray} {n : List (List S83)} (h : generalMade kd t n) : GM kd t n := by
 rcases h with h | ⟨h1, h2, h3⟩ | h | h
 ·exact .inl h
 ·exact .inr (.inl ⟨h1, List.mem_append_left _ h2, h3⟩)
 ·exact .inr (.inr (.inl h))
 ·exact .inr (.inr (.inr h))
theorem GM.low {t : ByteArray} {n : List (List S83)} (h : generalMade 2 t n) : GM 2 (lowBA t) n := by
 rcases h with ⟨h, _⟩ | ⟨_, h2, h3⟩ | ⟨h, _⟩ | ⟨h, _⟩
 ·omega
 ·exact .inr (.inl ⟨rfl, List.mem_append_right _ (List.mem_map.2 ⟨t, h2, rfl⟩), h3⟩)
 ·omega
 ·omega
theorem low_f {t : ByteArray} {n : List (List S83)} {kd : Int} (h : generalMade kd t n) : xk.f t = some (lowBA t) := by
 unfold xk.f
 have all : (generalMails ++ generalDnss ++ generalAddrs ++ [(⟨#[]⟩ : ByteArray)]).all (fun t => decide (t.size ≤ 4294967280)) = true := by decide +kernel
 have hm : t ∈ generalMails ++ generalDnss ++ generalAddrs ++ [(⟨#[]⟩ : ByteArray)] := by
  rcases h with ⟨_, h, _⟩ | ⟨_, h, _⟩ | ⟨_, h, _⟩ | ⟨_, h, _⟩
  ·simp [h]
  ·simp [h]
  ·simp [h]
  ·simp [h]
 rw [if_pos (of_decide_eq_true (List.all_eq_true.1 all t hm))]
 rfl
def FU : Nat := 300
def sameT (kd : Int) (t t' : ByteArray) : Option Bool := qz.f FU kd t [] kd t' []
def withT (kd : Int) (t c : ByteArray) : Option Bool := xi.f FU kd t [] kd c []
def sameV (kd : Int) (t : ByteArray) (n : List (List S83)) (kd' : Int) (t' : ByteArray) (n' : List (List S83)) : Bool := if kd = kd' then (if kd = 4 then matchS n n' else (sameT kd t t').getD false) else false
def withV (kd : Int) (t : ByteArray) (n : List (List S83)) (kd' : Int) (t' : ByteArray) (n' : List (List S83)) : Bool := if kd = kd' then (if kd = 4 then withinS n n' else (withT kd t t').getD false) else false
def okSame (kd : Int) (l : List ByteArray) : Bool := l.all fun t => (sameT kd t t == some true) && l.all fun t' => (sameT kd t t').isSome && (sameT kd t t' == sameT kd t' t)
def okWith (kd : Int) (l b : List ByteArray) : Bool := l.all fun t => b.all fun c => (withT kd t c).isSome
def okLaw (kd : Int) (l b : List ByteArray) : Bool := l.all fun t => l.all fun t' => !((sameT kd t t').getD false) || b.all fun c => withT kd t c == withT kd t' c
theorem same1 : okSame 1 generalMails = true := by kernel_rfl
theorem same2 : okSame 2 dnsAll = true := by kernel_rfl
theorem same7 : okSame 7 generalAddrs = true := by kernel_rfl
theorem with1 : okWith 1 generalMails baseMails = true := by kernel_rfl
theorem with2 : okWith 2 dnsAll baseDnss = true := by kernel_rfl
theorem with7 : okWith 7 generalAddrs baseAddrs = true := by kernel_rfl
theorem law1 : okLaw 1 generalMails baseMails = true := by kernel_rfl
theorem law2 : okLaw 2 dnsAll baseDnss = true := by kernel_rfl
theorem law7 : okLaw 7 generalAddrs baseAddrs = true := by kernel_rfl
theorem fine_made {n : List (List S83)} (hl : n.length ≤ 3) (h : ∀ r ∈ n, RelMade r) : FineN n := (Tiny.made hl h).fine yo
theorem same_look {kd : Int} {l : List ByteArray} (h : okSame kd l = true) {t t' : ByteArray} (ht : t ∈ l) (ht' : t' ∈ l) : sameT kd t t' = some ((sameT kd t t').getD false) ∧ sameT kd t t = some true ∧ sameT kd t t' = sameT kd t' t := by
 have h1 := List.all_eq_true.1 h t ht
 rw [Bool.and_eq_true, beq_iff_eq] at h1
 have h2 := List.all_eq_true.1 h1.2 t' ht'
 rw [Bool.and_eq_true, beq_iff_eq] at h2
 obtain ⟨r, hr⟩ := Option.isSome_iff_exists.1 h2.1
 exact ⟨by rw [hr]; rfl, h1.1, h2.2⟩
theorem with_look {kd : Int} {l b : List ByteArray} (h : okWith kd l b = true) {t c : ByteArray} (ht : t ∈ l) (hc : c ∈ b) : withT kd t c = some ((withT kd t c).getD false) := by
 have h1 := List.all_eq_true.1 (List.all_eq_true.1 h t ht) c hc
 obtain ⟨r, hr⟩ := Option.isSome_iff_exists.1 h1
 rw [hr]; rfl
theorem law_look {kd : Int} {l b : List ByteArray} (h : okLaw kd l b = true) {t t' c : ByteArray} (ht : t ∈ l) (ht' : t' ∈ l) (hc : c ∈ b) (hs : (sameT kd t t').getD false = true) : withT kd t c = withT kd t' c := by
 have h1 := List.all_eq_true.1 (List.all_eq_true.1 h t ht) t' ht'
 rw [hs, Bool.not_true, Bool.false_or] at h1
 exact beq_iff_eq.1 (List.all_eq_true.1 h1 c hc)
theorem same_ev {kd kd' : Int} {t t' : ByteArray} {n n' : List (List S83)} (hg : GM kd t n) (hh : GM kd' t' n') : ∃ k, qz.f k kd t n kd' t' n' = some (sameV kd t n kd' t' n') := by
 unfold sameV
 by_cases hk : kd = kd'
 case neg =>
  refine ⟨0, ?_⟩
  unfold qz.f
  rw [if_neg hk, if_neg hk]
 subst hk
 rw [if_pos rfl]
 rcases hg with ⟨rfl, ht, rfl⟩ | ⟨rfl, ht, rfl⟩ | ⟨rfl, ht, rfl⟩ | ⟨rfl, ht, hl, hr⟩
 ·rcases hh with ⟨_, ht', rfl⟩ | ⟨h, _⟩ | ⟨h, _⟩ | ⟨h, _⟩
  ·exact ⟨FU, by rw [if_neg (by decide)]; exact (same_look same1 ht ht').1⟩
  all_goals omega
 ·rcases hh with ⟨h, _⟩ | ⟨_, ht', rfl⟩ | ⟨h, _⟩ | ⟨h, _⟩
  ·omega
  ·exact ⟨FU, by rw [if_neg (by decide)]; exact (same_look same2 ht ht').1⟩
  all_goals omega
 ·rcases hh with ⟨h, _⟩ | ⟨h, _⟩ | ⟨_, ht', rfl⟩ | ⟨h, _⟩
  ·omega
  ·omega
  ·exact ⟨FU, by rw [if_neg (by decide)]; exact (same_look same7 ht ht').1⟩
  ·omega
 ·rcases hh with ⟨h, _⟩ | ⟨h, _⟩ | ⟨h, _⟩ | ⟨_, ht', hl', hr'⟩
  ·omega
  ·omega
  ·omega
  ·obtain ⟨k, hk⟩ := (MatchN_t n n' (fine_made hl hr) (fine_made hl' hr')).rounds
   refine ⟨k, ?_⟩
   rw [if_pos rfl]
   unfold qz.f
   rw [if_pos rfl, show xj.f 4 = some 2 from by kernel_rfl, Option.bind_some, if_neg (by decide), if_neg (by decide), if_pos rfl, hk]
   rfl
theorem with_ev {kd kd' : Int} {t t' : ByteArray} {n n' : List (List S83)} (hg : GM kd t n) (hh : baseMade kd' t' n') : ∃ k, xi.f k kd t n kd' t' n' = some (withV kd t n kd' t' n') := by
 unfold withV
 by_cases hk : kd = kd'
 case neg =>
  refine ⟨0, ?_⟩
  unfold xi.f
  rw [if_neg hk, if_neg hk]
 subst hk
 rw [if_pos rfl]
 rcases hg with ⟨rfl, ht, rfl⟩ | ⟨rfl, ht, rfl⟩ | ⟨rfl, ht, rfl⟩ | ⟨rfl, ht, hl, hr⟩
 ·rcases hh with ⟨_, ht', rfl⟩ | ⟨h, _⟩ | ⟨h, _⟩ | ⟨h, _⟩
  ·exact ⟨FU, by rw [if_neg (by decide)]; exact with_look with1 ht ht'⟩
  all_goals omega
 ·rcases hh with ⟨h, _⟩ | ⟨_, ht', rfl⟩ | ⟨h, _⟩ | ⟨h, _⟩
  ·omega
  ·exact ⟨FU, by rw [if_neg (by decide)]; exact with_look with2 ht ht'⟩
  all_goals omega
 ·rcases hh with ⟨h, _⟩ | ⟨h, _⟩ | ⟨_, ht', rfl⟩ | ⟨h, _⟩
  ·omega
  ·omega
  ·exact ⟨FU, by rw [if_neg (by decide)]; exact with_look with7 ht ht'⟩
  ·omega
 ·rcases hh with ⟨h, _⟩ | ⟨h, _⟩ | ⟨h, _⟩ | ⟨_, ht', hl', hr'⟩
  ·omega
  ·omega
  ·omega
  ·obtain ⟨k, hk⟩ := (Within_t n n' (fine_made hl hr) (fine_made hl' hr')).rounds
   refine ⟨k, ?_⟩
   rw [if_pos rfl]
   unfold xi.f
   rw [if_pos rfl, show xj.f 4 = some 2 from by kernel_rfl, Option.bind_some, if_neg (by decide), if_neg (by decide), if_pos rfl, hk]
   rfl
theorem same_refl {kd : Int} {t : ByteArray} {n : List (List S83)} (hg : GM kd t n) : sameV kd t n kd t n = true := by
 unfold sameV
 rw [if_pos rfl]
 rcases hg with ⟨rfl, ht, rfl⟩ | ⟨rfl, ht, rfl⟩ | ⟨rfl, ht, rfl⟩ | ⟨rfl, ht, hl, hr⟩
 ·rw [if_neg (by decide), (same_look same1 ht ht).2.1]; rfl
 ·rw [if_neg (by decide), (same_look same2 ht ht).2.1]; rfl
 ·rw [if_neg (by decide), (same_look same7 ht ht).2.1]; rfl
 ·rw [if_pos rfl]; exact matchS_refl n
theorem same_comm {kd kd' : Int} {t t' : ByteArray} {n n' : List (List S83)} (hg : GM kd t n) (hh : GM kd' t' n') : sameV kd t n kd' t' n' = sameV kd' t' n' kd t n := by
 unfold sameV
 by_cases hk : kd = kd'
 case neg => rw [if_neg hk, if_neg (Ne.symm hk)]
 subst hk
 rw [if_pos rfl, if_pos rfl]
 rcases hg with ⟨rfl, ht, rfl⟩ | ⟨rfl, ht, rfl⟩ | ⟨rfl, ht, rfl⟩ | ⟨rfl, ht, hl, hr⟩
 ·rcases hh with ⟨_, ht', rfl⟩ | ⟨h, _⟩ | ⟨h, _⟩ | ⟨h, _⟩
  ·rw [if_neg (by decide), if_neg (by decide), (same_look same1 ht ht').2.2]
  all_goals omega
 ·rcases hh with ⟨h, _⟩ | ⟨_, ht', rfl⟩ | ⟨h, _⟩ | ⟨h, _⟩
  ·omega
  ·rw [if_neg (by decide), if_neg (by decide), (same_look same2 ht ht').2.2]
  all_goals omega
 ·rcases hh with ⟨h, _⟩ | ⟨h, _⟩ | ⟨_, ht', rfl⟩ | ⟨h, _⟩
  ·omega
  ·omega
  ·rw [if_neg (by decide), if_neg (by decide), (same_look same7 ht ht').2.2]
  ·omega
 ·rw [if_pos rfl, if_pos rfl]; exact matchS_comm n n'
theorem match_within {n m b : List (List S83)} (h : matchS n m = true) : withinS n b = withinS m b := by
 obtain ⟨hl, hw⟩ := (matchS_iff n m).1 h
 rw [Bool.eq_iff_iff]
 exact ⟨fun h1 => withinS_trans (withinS_symm hl hw) h1, fun h1 => withinS_trans hw h1⟩
theorem same_within {kd kd' kc : Int} {t t' c : ByteArray} {n n' b : List (List S83)} (hg : GM kd t n) (hh : GM kd' t' n') (hc : baseMade kc c b) (hs : sameV kd t n kd' t' n' = true) : withV kd t n kc c b = withV kd' t' n' kc c b := by
 unfold sameV at hs
 by_cases hk : kd = kd'
 case neg => rw [if_neg hk] at hs; cases hs
 subst hk
 rw [if_pos rfl] at hs
 unfold withV
 by_cases hkc : kd = kc
 case neg => rw [if_neg hkc, if_neg hkc]
 subst hkc
 rw [if_pos rfl, if_pos rfl]
 rcases hg with ⟨rfl, ht, rfl⟩ | ⟨rfl, ht, rfl⟩ | ⟨rfl, ht, rfl⟩ | ⟨rfl, ht, hl, hr⟩
 ·rw [if_neg (by decide)] at hs
  rcases hh with ⟨_, ht', rfl⟩ | ⟨h, _⟩ | ⟨h, _⟩ | ⟨h, _⟩
  ·rcases hc with ⟨_, hc, rfl⟩ | ⟨h, _⟩ | ⟨h, _⟩ | ⟨h, _⟩
   ·rw [if_neg (by decide), if_neg (by decide), law_look law1 ht ht' hc hs]
   all_goals omega
  all_goals omega
 ·rw [if_neg (by decide)] at hs
  rcases hh with ⟨h, _⟩ | ⟨_, ht', rfl⟩ | ⟨h, _⟩ | ⟨h, _⟩
  ·omega
  ·rcases hc with ⟨h, _⟩ | ⟨_, hc, rfl⟩ | ⟨h, _⟩ | ⟨h, _⟩
   ·omega
   ·rw [if_neg (by decide), if_neg (by decide), law_look law2 ht ht' hc hs]
   all_goals omega
  all_goals omega
 ·rw [if_neg (by decide)] at hs
  rcases hh with ⟨h, _⟩ | ⟨h, _⟩ | ⟨_, ht', rfl⟩ | ⟨h, _⟩
  ·omega
  ·omega
  ·rcases hc with ⟨h, _⟩ | ⟨h, _⟩ | ⟨_, hc, rfl⟩ | ⟨h, _⟩
   ·omega
   ·omega
   ·rw [if_neg (by decide), if_neg (by decide), law_look law7 ht ht' hc hs]
   ·omega
  ·omega
 ·rw [if_pos rfl] at hs
  rw [if_pos rfl, if_pos rfl]
  exact match_within hs
end Go.Proofs.YtlamfnaoemingaaGreatDoor.Pl
end
