/- Words, walks and plain laws that the claim rests on, gathered. -/
import Derived.OrdersHeld
import Derived.Deep.RegionHeld3
import Derived.Laws.BitsLemmas
import Derived.RowKit
import Derived.Below
import Derived.Deep.Draws
import Derived.Deep.AppendLies
import Derived.Maps.AppendAt
import Derived.OwnWalk
import Derived.Laws.BytesArg
import Derived.Laws.MakeOwn
import Derived.Laws.OwnMore
import Derived.Deep.OwnRows
import Derived.Tactics
import Derived.Lib.ConvBytes
import Derived.Laws.Slices
import Derived.WalkKit
import Derived.KernelRfl
import Derived.RowKit3
import Derived.Deep.LoopGhost
import Derived.Deep.QuietTactic
import Derived.BigQuiet
import Derived.WideLaws
import Derived.Deep.DeepCutAuto
import Derived.Deep.CutBlock
import Derived.Laws.Rows
import Derived.Lib.AppendStr
import Derived.ArgAppend
import Derived.Laws.IdiomCopy
import Derived.Shelf.Small.Strs
import Derived.Shelf.Strings.Search1
import Derived.Shelf.Strings.Search2
import Derived.Shelf.Strings.Search3
import Derived.Shelf.Strings.Cut
import Derived.Shelf.Strings.Count
import Derived.Shelf.LaysM
import Derived.Shelf.Strings.Shaped
import Derived.Shelf.Strings.Prefix
import Derived.Shelf.Strings.Split
import Derived.Shelf.Strings.SplitShaped
import Derived.Shelf.Unicode.DecodeSlow
import Derived.Test.YtjhlinifnjoefaaDoorProg
import Derived.Laws.StructEq
import Derived.WalkSpells
import Derived.Lib.SplitLaws
import Derived.Test.YtjhlinifnjoefaaDoorNO0
import Derived.Test.YtjhlinifnjoefaaDoorNO1
import Derived.Test.YtjhlinifnjoefaaDoorNO2
import Derived.Test.YtjhlinifnjoefaaDoorNO3
import Derived.Test.YtjhlinifnjoefaaDoorNO4
import Derived.Test.YtjhlinifnjoefaaDoorNO5
import Derived.Test.YtjhlinifnjoefaaDoorNO6
import Derived.Test.YtjhlinifnjoefaaDoorNO7
import Derived.Test.YtjhlinifnjoefaaDoorNO8
import Derived.Test.YtjhlinifnjoefaaDoorNO9
namespace Go.Proofs.YtjhlinifnjoefaaDoorW.PrintLast
end Go.Proofs.YtjhlinifnjoefaaDoorW.PrintLast
namespace Go.Proofs.YtjhlinifnjoefaaDoorW.PrintMore
end Go.Proofs.YtjhlinifnjoefaaDoorW.PrintMore
namespace Go.Proofs.YtjhlinifnjoefaaDoorW.PrintWords
end Go.Proofs.YtjhlinifnjoefaaDoorW.PrintWords
section
namespace Go.Proofs.YtjhlinifnjoefaaDoor.C
open Go.RowKit Go.Proofs.YtjhlinifnjoefaaDoorW.PrintWords Go.Proofs.YtjhlinifnjoefaaDoorW.PrintLast Go.Proofs.YtjhlinifnjoefaaDoorW.PrintMore
attribute [local go_sem] z8 z7 xf xe zu zv zz zy
set_option linter.unusedVariables false
set_option linter.unusedSimpArgs false
def SpA (x y : S26) : Prop := y.f0 = x.f0 ∧ y.f1 = 12 ∧ (y.f2 = x.f2 ∨ y.f2 = (⟨#[32]⟩ : ByteArray) ++ x.f2 ∨ xd.f x.f2 = some y.f2)
def SpR (r l : List S26) : Prop := l.length = r.length ∧ (∀ x ∈ r, ∃ y ∈ l, SpA x y) ∧ (∀ y ∈ l, ∃ x ∈ r, SpA x y)
def SpN (n m : List (List S26)) (i : Nat) : Prop := m.length = i ∧ ∀ j r l, j < i → n[j]? = some r → m[j]? = some l → SpR r l
theorem SpR.nil : SpR [] [] := ⟨rfl, by simp, by simp⟩
theorem SpR.snoc {r l : List S26} {x y : S26} (h : SpR r l) (hx : SpA x y) : SpR (r ++ [x]) ([y] ++ l) := by
 refine ⟨by simp [h.1], fun z hz => ?_, fun z hz => ?_⟩
 ·rcases List.mem_append.1 hz with hz | hz
  ·obtain ⟨q, hq, hs⟩ := h.2.1 z hz
   exact ⟨q, by simp [hq], hs⟩
  ·obtain rfl := List.mem_singleton.1 hz
   exact ⟨y, by simp, hx⟩
 ·rcases List.mem_append.1 hz with hz | hz
  ·obtain rfl := List.mem_singleton.1 hz
   exact ⟨x, by simp, hx⟩
  ·obtain ⟨q, hq, hs⟩ := h.2.2 z hz
   exact ⟨q, by simp [hq], hs⟩
theorem SpN.snoc {n m : List (List S26)} {i : Nat} {l : List S26} (h : SpN n m i) (hl : ∀ r, n[i]? = some r → SpR r l) : SpN n (m ++ [l]) (i + 1) := by
 refine ⟨by simp [h.1], fun j r q hj hr hq => ?_⟩
 by_cases e : j = i
 ·subst e
  rw [List.getElem?_append_right (by rw [h.1]; exact Nat.le_refl _), h.1, Nat.sub_self] at hq
  obtain rfl : l = q := by simpa using hq
  exact hl r hr
 ·rw [List.getElem?_append_left (by rw [h.1]; omega)] at hq
  exact h.2 j r q (by omega) hr hq
theorem add_block (ad : Addr) (i : Nat) : (ad.add i).block = ad.block := by
 obtain ⟨b, o, s⟩ := ad
 unfold Addr.add
 split <;> rfl
theorem keep_cell {w W : World} {g : Nat} (h : KeepBut w W g none) {p : Addr} (hp : p.block ≠ g) (hl : p.block < w.heap.size) : W.cell? p = w.cell? p := World.cell?_of_block (w := w) (h.2 p.block hl hp (by simp))
theorem row_of {w : World} {g : Nat} {An : Option Addr} {n : List (List S26)} (hn : ∀ W', KeepBut w W' g none → Kd.C (Kd.slice 26 k26) W' An n.length n) (hA : ∀ ad, An = some ad → 0 < n.length → ad.block ≠ g ∧ ad.block < w.heap.size) (i : Nat) (hi : i < n.length) :
  ∃ ad Ar cr, An = some ad ∧ (kf n i).length ≤ cr ∧ ∀ W', KeepBut w W' g none → W'.cell? (ad.add i) = some (.slice Ar (kf n i).length cr) ∧ Kd.C k26 W' Ar (kf n i).length (kf n i) := by
 obtain ⟨ad, Ar, cr, e, hx, hc, _⟩ := at_L4 (hn w (KeepBut.refl _ _ _)) (i : Int) (by omega) (by omega)
 rw [Int.toNat_natCast] at hx
 refine ⟨ad, Ar, cr, e, hc, fun W' hk => ?_⟩
 obtain ⟨ad', A', c', e', hx', _, hC'⟩ := at_L4 (hn W' hk) (i : Int) (by omega) (by omega)
 obtain rfl : ad = ad' := by rw [e] at e'; injection e'
 rw [Int.toNat_natCast] at hx'
 have h1 := hA ad e (by omega)
 have hq : W'.cell? (ad.add i) = w.cell? (ad.add i) := keep_cell hk (by rw [add_block]; exact h1.1) (by rw [add_block]; exact h1.2)
 rw [hq] at hx' ⊢
 refine ⟨hx, ?_⟩
 rw [hx] at hx'
 injection hx' with hx'
 injection hx' with h2
 rw [h2]
 exact hC'
theorem NSt.set {w0 w : World} {g g2 g3 : Nat} {W : World} {ok : Nat → Prop} {un : Value} {ns : List (List S26)} (h : NSt w0 w g g2 g3 W ok un ns) {q : Nat} (hq : w.heap.size ≤ q) (h2 : g2 ≠ q) (h3 : g3 ≠ q) (hok : ∀ k, ok k → k ≠ q) (j : Nat) (v : Value) :
  NSt w0 w g g2 g3 (W.setCell ⟨q, j, none⟩ v) ok un ns :=
 ⟨h.di.far (by show g ≠ q; have := h.hg; omega) _, qe h.b (Nat.le_trans h.hw hq), keep_far h.k hq _, xb h.b2 h2 _, xb h.b3 h3 _, Kd.S_far h.s hok _, h.h2, h.h3, h.hg, h.hw⟩
def Short (n : List (List S26)) : Prop := n.length ≤ 1000 ∧ ∀ r ∈ n, r.length ≤ 1000 ∧ ∀ a ∈ r, a.f2.size ≤ 1000000
set_option maxHeartbeats 8000000 in
set_option maxRecDepth 100000 in
theorem spelled_weak (g : Nat) (w0 w : World) (An : Option Addr) (cn : Nat) (n : List (List S26)) (hI : DK w0 w g) (hB : Below w0.heap.size w0 w)
  (hn : ∀ W', KeepBut w W' g none → Kd.C (Kd.slice 26 k26) W' An n.length n) (hA : ∀ ad, An = some ad → 0 < n.length → ad.block ≠ g ∧ ad.block < w.heap.size) (hc : n.length ≤ cn) (hs : Short n) :
  Calls Tryd.prog 13 #[.pointer (some ⟨g, 0, none⟩), .agg #[.slice An n.length cn]] w fun e w' => ∃ (v : Value) (m : List (List S26)), e = .returned (.agg #[v]) ∧ SpN n m n.length ∧
   Kd.S (Kd.slice 26 k26) 27 w' w.heap.size (fun k => k ≠ g) v m ∧ DK w0 w' g ∧ Below w0.heap.size w0 w' ∧ KeepBut w w' g none := by
 have hu24 := Tryd.underlying24
 have hu26 := Tryd.underlying26
 have hg := qa.mk hI.lt
 have hw := qa.mk hB.size
 have HI := qa.mk hI
 have HB := qa.mk hB
 have HN := qa.mk hn
 have HC := qa.mk hc
 have HS := qa.mk hs
 have HA := qa.mk hA
 clear hI hB hn hA hc hs
 go_enter Tryd.func13, Tryd.ntmps13
 go_upto_region 2 with (fail)
 obtain ⟨W1, hW1⟩ : ∃ W, W = (((w.alloc (Obj.cells #[Value.slice An n.length cn] 24)).alloc (Obj.cells #[Value.slice none 0 0] 24)).alloc (Obj.cells #[Value.slice none 0 0] 24)) := ⟨_, rfl⟩
 rw [← hW1]
 have hb1 : Below w.heap.size w W1 := by rw [hW1]; exact qc (qc (qc (Below.refl _ _) _) _) _
 have BKN := qa.mk (show W1.heap[w.heap.size]? = some (.cells #[.slice An n.length cn] 24 (0, 0)) by rw [hW1]; exact qg (qg (heap_alloc_new w _) _) _)
 have hb2 : W1.heap[w.heap.size + 1]? = some (.cells #[.slice none 0 0] 24 (0, 0)) := by rw [hW1]; exact qg (by simpa using heap_alloc_new (w.alloc (Obj.cells #[Value.slice An n.length cn] 24)) (Obj.cells #[Value.slice none 0 0] 24)) _
 have hb3 : W1.heap[w.heap.size + 1 + 1]? = some (.cells #[.slice none 0 0] 24 (0, 0)) := by rw [hW1]; simpa using heap_alloc_new ((w.alloc (Obj.cells #[Value.slice An n.length cn] 24)).alloc (Obj.cells #[Value.slice none 0 0] 24)) (Obj.cells #[Value.slice none 0 0] 24)
 have ST : qa (NSt w0 w g (w.heap.size + 1) (w.heap.size + 1 + 1) W1 (fun _ => True) (.slice none 0 0) []) := ⟨HI.out.below hb1, qk HB.out hb1, KeepBut.of_below hb1 g none, hb2, hb3, Kd.S_nil _ _ _ _ _, Nat.le_succ _, by omega, hg.out, hw.out⟩
 clear hW1 hb1 hb2 hb3
 have G23 := qa.mk (show w.heap.size + 1 ≠ w.heap.size + 1 + 1 by omega)
 generalize w.heap.size + 1 + 1 = g3 at ST G23 ⊢
 generalize w.heap.size + 1 = g2 at ST G23 ⊢
 obtain ⟨gn, hgn⟩ : ∃ x, x = w.heap.size := ⟨_, rfl⟩
 rw [← hgn] at BKN ⊢
 clear hgn
 have hczn : W1.cell? ⟨gn, 0, none⟩ = some (.slice An n.length cn) := (qf BKN.out 0).trans rfl
 go_wp2
 clear hczn BKN
 go_loopg [16] n.length (fun kq v16 w' => ∃ (i : Nat) (ns : List (List S26)) (un : Value), v16 = .int .i64 i ∧ qa (i + kq = n.length) ∧ qa (SpN n ns i) ∧ qa (NSt w0 w g g2 g3 w' (fun _ => True) un ns))
 case atStart => exact ⟨0, [], _, rfl, ⟨by omega⟩, ⟨rfl, fun j r l h => by omega⟩, ST⟩
 case round =>
  clear ST
  obtain ⟨i, ns, un, rfl, hi, hsp, ST⟩ := hrel
  cases gk with
  | zero =>
   obtain rfl : i = n.length := by have := hi.out; omega
   have hlt : decide ((n.length : Int) < (n.length : Int)) = false := decide_eq_false (by omega)
   obtain ⟨Am, cm, rfl⟩ := Kd.xz ST.out.s
   have hcz : wr.cell? ⟨g3, 0, none⟩ = some (.slice Am ns.length cm) := (qf ST.out.b3 0).trans rfl
   have hcz2 : wr.cell? ⟨g2, 0, none⟩ = some (.slice none 0 0) := (qf ST.out.b2 0).trans rfl
   have hfz2 := ql ST.out.b2 0
   go_wp2
   refine bodyPost_ret (results_cell_row rfl _ _ g2 24 #[.slice Am ns.length cm] (0, 0) _ rfl (zl ST.out.b2 0 _ rfl) Tryd.underlying24 rfl (by kernel_rfl)) rfl ?_
   have hgw := hg.out
   have h2 := ST.out.h2
   refine ⟨_, ns, rfl, hsp.out, ?_, ST.out.di.far (by show g ≠ g2; omega) _, qe ST.out.b (Nat.le_trans hw.out h2), keep_far ST.out.k h2 _⟩
   exact Kd.xo (Kd.S_bound (Kd.S_set ST.out.s ST.out.b2 (by decide) 0 _)) (fun k hk => by have := hk.2.1; omega)
  | succ k1 =>
   have hlt0 : i < n.length := by have := hi.out; omega
   have hlt : decide ((i : Int) < (n.length : Int)) = true := decide_eq_true (by omega)
   have p0 : (0 ≤ (i : Int)) = True := eq_true (by omega)
   have p1 : ((i : Int) < (n.length : Int)) = True := eq_true (by omega)
   obtain ⟨r, hr⟩ : ∃ r, r = kf n (i : Int) := ⟨_, rfl⟩
   have hri : n[i]? = some r := by rw [hr]; unfold kf; rw [Int.toNat_natCast, List.getD_eq_getElem?_getD, List.getElem?_eq_getElem hlt0]; rfl
   have hrs := qa.mk (HS.out.2 r (by obtain ⟨h1, h2⟩ := List.getElem?_eq_some_iff.1 hri; rw [← h2]; exact List.getElem_mem h1))
   have HRI := qa.mk hri
   have WI := qa.mk (show wrap64 ((i : Int) + 1) = ((i + 1 : Nat) : Int) by have := HS.out.1; unfold wrap64; omega)
   clear hri
   obtain ⟨ad, Ar, cr, hAn, hcr, hall⟩ := row_of HN.out HA.out i hlt0
   rw [← hr] at hall hcr
   have HRow := qa.mk hall
   have hczr : wr.cell? (ad.add i) = some (.slice Ar r.length cr) := (HRow.out wr ST.out.k).1
   clear hr hcr hall
   subst hAn
   go_wp2
   clear hczr hlt p0 p1
   go_loopg [8, 22] r.length (fun kq v8 v22 w' => ∃ (j : Nat) (l : List S26), v22 = .int .i64 j ∧ qa (j + kq = r.length) ∧ qa (SpR (r.take j) l) ∧ qa (NSt w0 w g g2 g3 w' (fun k => some k ≠ v8.ownBlock) un ns) ∧ qa (Kd.R k26 26 w' w.heap.size (fun _ => True) v8 l))
   case atStart => exact ⟨0, [], rfl, ⟨by omega⟩, ⟨SpR.nil⟩, ⟨ST.out.mono (fun k _ _ _ => by simp [Value.ownBlock])⟩, ⟨Kd.R_nil _ _ _ _ _⟩⟩
   case round =>
    clear ST
    obtain ⟨j, l, rfl, hj, hsl, ST, HR⟩ := hrel
    cases gk with
    | zero =>
     obtain rfl : j = r.length := by have := hj.out; omega
     have hlt : decide ((r.length : Int) < (r.length : Int)) = false := decide_eq_false (by omega)
     obtain ⟨A5, c5, rfl⟩ := Kd.kj HR.out
     obtain ⟨Am, cm, rfl⟩ := Kd.xz ST.out.s
     have hcz : wr.cell? ⟨g3, 0, none⟩ = some (.slice Am ns.length cm) := (qf ST.out.b3 0).trans rfl
     have hfz := ql ST.out.b3 0
     have LM := qa.mk (show (ns.length + 1) * 24 ≤ 140737488355328 by have := hsp.out.1; have := HS.out.1; omega)
     go_wp2_with ((with_reducible refine ze (N := 54) rfl ?_); refine Kd.S_append (Kd.slice 26 k26) (w0 := wr) (W := wr) w.heap.size rfl (.tmp 51) (.tmp 53) 22 27 (.slice none 0 0) 24 rfl Tryd.underlying22 info27 rfl (by decide) (by omega) (.slice Am ns.length cm) ns l [.slice A5 l.length c5] (fun _ => True) (fun k_ => some k_ = (.slice A5 l.length c5 : Value).ownBlock) rfl rfl (Kd.M_row (Kd.xh (Kd.R_tight rfl HR.out) (fun _ h => h))) (fun k_ hk_ => (Kd.xh (ok' := fun k_ => True ∧ some k_ ≠ (Value.slice Am ns.length cm).ownBlock) (Kd.R_apart' HR.out (Kd.S_typed ST.out.s) (by decide)) (fun k hk => ⟨trivial, hk.2⟩)).1 k_ hk_.symm) (fun _ _ => trivial) (Kd.xo ST.out.s (fun k_ hk => ⟨trivial, hk⟩)) (Below.refl _ _) ST.out.k.1 LM.out ?_; intro v1 W7 ho hb hg ho'; obtain ⟨ns1, hns1⟩ : ∃ x, x = ns ++ [l] := ⟨_, rfl⟩; rw [← hns1] at ho; obtain ⟨A1, c1, rfl⟩ := Kd.xz ho; have NS1 := qa.mk hns1; clear hns1; have hcz7 : W7.cell? ⟨g3, 0, none⟩ = some (.slice Am ns.length cm) := (qf (kc ST.out.b3 hg (Kd.S_ne ST.out.s ST.out.b3 (by decide))) 0).trans rfl; have hfz7 := ql (kc ST.out.b3 hg (Kd.S_ne ST.out.s ST.out.b3 (by decide))) 0; have hS := qa.mk (ST.out.push hg hb ho G23.out); clear ST hcz hfz ho hb hg ho'; have ST := hS; clear hS)
     go_roundg k1
     case measure => omega
     case rel => exact ⟨i + 1, ns1, _, by rw [WI.out], ⟨by have := hi.out; omega⟩, ⟨by rw [NS1.out]; exact SpN.snoc hsp.out (fun q hq => by rw [HRI.out] at hq; injection hq with hq; subst hq; have := hsl.out; rwa [List.take_length] at this)⟩, ST⟩
    | succ k2 =>
     have hjl : j < r.length := by have := hj.out; omega
     have hlt : decide ((j : Int) < (r.length : Int)) = true := decide_eq_true (by omega)
     have p0 : (0 ≤ (j : Int)) = True := eq_true (by omega)
     have p1 : ((j : Int) < (r.length : Int)) = True := eq_true (by omega)
     obtain ⟨A8, c8, rfl⟩ := Kd.kj HR.out
     obtain ⟨a, haj⟩ : ∃ a, a = qp r (j : Int) := ⟨_, rfl⟩
     have hrj : r[j]? = some a := by rw [haj]; unfold qp; rw [Int.toNat_natCast, List.getD_eq_getElem?_getD, List.getElem?_eq_getElem hjl]; rfl
     obtain ⟨ad2, e2, hx0, hx1, hx2⟩ := at_T26 (HRow.out wr ST.out.k).2 (j : Int) (by omega) (by omega)
     rw [← haj, Int.toNat_natCast] at hx0 hx1 hx2
     have hsz := qa.mk (hrs.out.2 a (by obtain ⟨h1, h2⟩ := List.getElem?_eq_some_iff.1 hrj; rw [← h2]; exact List.getElem_mem h1))
     have HRJ := qa.mk hrj
     clear haj hrj
     subst e2
     have WJ := qa.mk (show wrap64 ((j : Int) + 1) = ((j + 1 : Nat) : Int) by have := hrs.out.1; unfold wrap64; omega)
     go_upto_region 9 with (fail)
     obtain ⟨W2, hW2⟩ : ∃ W, W = wr.alloc (Obj.cells #[Value.string a.f0, Value.int IntKind.i64 a.f1, Value.string a.f2] 26) := ⟨_, rfl⟩
     rw [← hW2]
     have hb2 : Below wr.heap.size wr W2 := by rw [hW2]; exact qc (Below.refl _ _) _
     have BA := qa.mk (show W2.heap[wr.heap.size]? = some (.cells #[.string a.f0, .int .i64 a.f1, .string a.f2] 26 (0, 0)) by rw [hW2]; exact heap_alloc_new _ _)
     have GA := qa.mk (show w.heap.size ≤ wr.heap.size from ST.out.k.1)
     replace ST := qa.mk (ST.out.below hb2)
     replace HR := qa.mk (Kd.xt HR.out hb2)
     clear hW2 hb2 hx0 hx1 hx2
     generalize wr.heap.size = gA at BA GA ⊢
     have z0 : W2.cell? ⟨gA, 0, none⟩ = some (.string a.f0) := (qf BA.out 0).trans rfl
     have z2 : W2.cell? ⟨gA, 2, none⟩ = some (.string a.f2) := (qf BA.out 2).trans rfl
     go_upto_region 10 with (fail)
     obtain ⟨W3, hW3⟩ : ∃ W, W = W2.alloc (Obj.cells #[Value.string a.f0, Value.int IntKind.i64 12, Value.string a.f2] 26) := ⟨_, rfl⟩
     rw [← hW3]
     have hb3 : Below W2.heap.size W2 W3 := by rw [hW3]; exact qc (Below.refl _ _) _
     have BB := qa.mk (show W3.heap[W2.heap.size]? = some (.cells #[.string a.f0, .int .i64 12, .string a.f2] 26 (0, 0)) by rw [hW3]; exact heap_alloc_new _ _)
     have GB := qa.mk (show w.heap.size ≤ W2.heap.size from ST.out.k.1)
     have G2B := qa.mk (show g2 ≠ W2.heap.size from Nat.ne_of_lt (zk ST.out.b2))
     have G3B := qa.mk (show g3 ≠ W2.heap.size from Nat.ne_of_lt (zk ST.out.b3))
     have GAB := qa.mk (show gA ≠ W2.heap.size from Nat.ne_of_lt (zk BA.out))
     replace ST := qa.mk ((ST.out.mono (ok' := fun k => some k ≠ (Value.slice A8 l.length c8).ownBlock ∧ k ≠ W2.heap.size) (fun k _ h2 h3 => ⟨h3, by omega⟩)).below hb3)
     replace HR := qa.mk (Kd.xt (Kd.R_elderB HR.out W2.heap.size (Nat.le_refl _)) hb3)
     replace BA := qa.mk (qv BA.out hb3)
     clear hW3 hb3 z0 z2
     generalize W2.heap.size = gB at BB GB G2B G3B GAB ST HR ⊢
     go_upto_region 11 with (go_at_call 14; refine (next_weak g 3 (by omega) (by omega) w0 _ ST.out.di ST.out.b).mono ?_; rintro e W4 ⟨x, rfl, hx0, hx1, di, hb, hk⟩; replace HR := qa.mk (Kd.xh (Kd.R_keep (let ⟨L, At, hi, _⟩ := ST.out.di; zd.apart hi HR.out (by decide)) hk (fun _ h => h.2)) (fun _ h => h.1)); replace BA := qa.mk (KeepBut.blk hk BA.out (by have h1 := GA.out; have h2 := hg.out; omega) (by simp)); replace BB := qa.mk (KeepBut.blk hk BB.out (by have h1 := GB.out; have h2 := hg.out; omega) (by simp)); replace ST := qa.mk (ST.out.call di hb hk); clear di hb hk)
     have z2 : W4.cell? ⟨gA, 2, none⟩ = some (.string a.f2) := (qf BA.out 2).trans rfl
     have zb : W4.cell? ⟨gB, 2, none⟩ = some (.string a.f2) := (qf BB.out 2).trans rfl
     have zf := ql BB.out 2
     obtain hxx | hxx | hxx : x = 0 ∨ x = 1 ∨ x = 2 := by omega
     ·subst hxx
      clear hx0 hx1
      have SZ := hsz.out
      have c7b2 : (9223372036854775807 < 1 + a.f2.size) = False := eq_false (by omega)
      clear SZ
      go_upto_region 15 with (fail)
      obtain ⟨s, hs⟩ : ∃ s, s = (⟨#[32]⟩ : ByteArray) ++ a.f2 := ⟨_, rfl⟩
      have SP := qa.mk (show SpA a ⟨a.f0, 12, s⟩ from ⟨rfl, rfl, .inr (.inl hs)⟩)
      rw [← hs]
      clear hs z2 zb zf c7b2
      replace BB := qa.mk (zl BB.out 2 (.string s) rfl)
      replace HR := qa.mk (Kd.R_far HR.out (p := ⟨gB, 2, none⟩) (fun _ h => h.2) (.string s))
      replace ST := qa.mk (ST.out.set GB.out G2B.out G3B.out (fun _ h => h.2) 2 (.string s))
      clear BA
      generalize W4.setCell ⟨gB, 2, none⟩ (.string s) = W6 at BB HR ST ⊢
      have y0 : W6.cell? ⟨gB, 0, none⟩ = some (.string a.f0) := (qf BB.out 0).trans rfl
      have y1 : W6.cell? ⟨gB, 1, none⟩ = some (.int .i64 12) := (qf BB.out 1).trans rfl
      have y2 : W6.cell? ⟨gB, 2, none⟩ = some (.string s) := (qf BB.out 2).trans rfl
      have LM := qa.mk (show l.length ≤ 1000 by have h1 := hsl.out.1; have h2 := hrs.out.1; rw [List.length_take] at h1; omega)
      go_wp2_with (first
       | ((with_reducible refine ze (N := 46) rfl ?_); refine Kd.R_lit k26 (w0 := W6) (W := W6) w.heap.size 26 ?hg (N := 46) ?hd (xs := [(⟨a.f0, 12, s⟩ : S26)]) (inner := [.string a.f0, .int .i64 12, .string s]) (ok := fun _ => True) (okp := fun _ => True) ?hr ?hp (fun _ hk => hk) trivial (Below.refl _ _) ST.out.k.1 (by simp) ?_; (case hd => rfl); (case hg => rfl); (case hr => first | (go_simp; done) | (go_simp; rfl)); (case hp => exact (Reps.c3 (show Kd.M k26 _ _ _ (⟨a.f0, 12, s⟩ : S26) [.string a.f0, .int .i64 12, .string s] from (xy _ _ _ (⟨a.f0, 12, s⟩ : S26))) (Reps.none _ _))); intro v46 W7 ho hb hg_ hnew; have hS := qa.mk ((ST.out.mono (ok' := fun k => some k ≠ (Value.slice A8 l.length c8).ownBlock ∧ k < W6.heap.size) (fun k _ h2 h3 => ⟨h3.1, h2⟩)).grown hg_ hb (by simp) (by simp) (by simp) (by simp)); have hR := qa.mk (Kd.R_grown HR.out hg_ (by simp)); have HL := qa.mk ho; have HNW := qa.mk hnew; clear ST HR BB y0 y1 y2 ho hb hg_ hnew; have ST := hS; have HR := hR; clear hS hR)
       | ((with_reducible refine ze (N := 48) rfl ?_); refine Kd.R_append_rows k26 (Rr := k26.K W7) (w0 := W7) (W := W7) w.heap.size rfl (.tmp 46) (.tmp 47) 27 26 (.agg #[(.string ⟨#[]⟩), (.int .i64 0), (.string ⟨#[]⟩)]) 40 rfl Tryd.underlying27 info26 rfl (by decide) (by omega) v46 [(⟨a.f0, 12, s⟩ : S26)] l A8 l.length c8 (fun _ => True) (fun _ => False) rfl rfl HL.out (Kd.xw HR.out).2.2 (fun x cs h => by rw [k26_open h]; exact xy _ _ _ x) (fun _ hk => hk.elim) (fun _ _ => trivial) (Below.refl _ _) ST.out.k.1 (by have := LM.out; simp; omega) ?_; intro v1 W8 ho hb hg ho'; have hS := qa.mk (((ST.out.mono (ok' := fun k => some k ≠ v46.ownBlock ∧ k < W7.heap.size) (fun k _ h2 h3 => ⟨ne_new (v := .slice A8 l.length c8) (.inr HNW.out) h3, h2⟩)).grown hg hb (Kd.R_base HL.out) (Kd.R_ne HL.out ST.out.b2 (by decide)) (Kd.R_ne HL.out ST.out.b3 (by decide)) (fun _ h => h.1)).mono (ok' := fun k => some k ≠ v1.ownBlock) (fun k _ _ h3 => ne_new ho' h3)); have hR := qa.mk ho; clear ST HR HL HNW ho hb hg ho'; have ST := hS; have HR := hR; clear hS hR))
      go_roundg k2
      case measure => omega
      case rel => exact ⟨j + 1, [(⟨a.f0, 12, s⟩ : S26)] ++ l, by rw [WJ.out], ⟨by have := hj.out; omega⟩, ⟨by rw [List.take_add_one, HRJ.out]; exact SpR.snoc hsl.out SP.out⟩, ST, HR⟩
     ·subst hxx
      clear hx0 hx1
      obtain ⟨s, hs⟩ : ∃ s, xd.f a.f2 = some s := by
       have SZ := hsz.out
       unfold xd.f
       exact ⟨_, if_pos (by omega)⟩
      have SP := qa.mk (show SpA a ⟨a.f0, 12, s⟩ from ⟨rfl, rfl, .inr (.inr hs)⟩)
      have HLO := qa.mk hs
      clear hs zb zf
      go_upto_region 15 with (go_at_call 23; refine (xd.calls a.f2 s _ HLO.out).mono ?_; rintro e W5 ⟨rfl, hb⟩; have zb : W5.cell? ⟨gB, 2, none⟩ = some (.string a.f2) := (qf (qv BB.out hb) 2).trans rfl; have zf := ql (qv BB.out hb) 2; have hS := qa.mk (ST.out.below hb); have hR := qa.mk (Kd.xt HR.out hb); have hBB := qa.mk (qv BB.out hb); clear ST HR BB BA hb z2; have ST := hS; have HR := hR; have BB := hBB; clear hS hR hBB)
      clear zb zf
      replace BB := qa.mk (zl BB.out 2 (.string s) rfl)
      replace HR := qa.mk (Kd.R_far HR.out (p := ⟨gB, 2, none⟩) (fun _ h => h.2) (.string s))
      replace ST := qa.mk (ST.out.set GB.out G2B.out G3B.out (fun _ h => h.2) 2 (.string s))
      generalize W5.setCell ⟨gB, 2, none⟩ (.string s) = W6 at BB HR ST ⊢
      have y0 : W6.cell? ⟨gB, 0, none⟩ = some (.string a.f0) := (qf BB.out 0).trans rfl
      have y1 : W6.cell? ⟨gB, 1, none⟩ = some (.int .i64 12) := (qf BB.out 1).trans rfl
      have y2 : W6.cell? ⟨gB, 2, none⟩ = some (.string s) := (qf BB.out 2).trans rfl
      have LM := qa.mk (show l.length ≤ 1000 by have h1 := hsl.out.1; have h2 := hrs.out.1; rw [List.length_take] at h1; omega)
      go_wp2_with (first
       | ((with_reducible refine ze (N := 46) rfl ?_); refine Kd.R_lit k26 (w0 := W6) (W := W6) w.heap.size 26 ?hg (N := 46) ?hd (xs := [(⟨a.f0, 12, s⟩ : S26)]) (inner := [.string a.f0, .int .i64 12, .string s]) (ok := fun _ => True) (okp := fun _ => True) ?hr ?hp (fun _ hk => hk) trivial (Below.refl _ _) ST.out.k.1 (by simp) ?_; (case hd => rfl); (case hg => rfl); (case hr => first | (go_simp; done) | (go_simp; rfl)); (case hp => exact (Reps.c3 (show Kd.M k26 _ _ _ (⟨a.f0, 12, s⟩ : S26) [.string a.f0, .int .i64 12, .string s] from (xy _ _ _ (⟨a.f0, 12, s⟩ : S26))) (Reps.none _ _))); intro v46 W7 ho hb hg_ hnew; have hS := qa.mk ((ST.out.mono (ok' := fun k => some k ≠ (Value.slice A8 l.length c8).ownBlock ∧ k < W6.heap.size) (fun k _ h2 h3 => ⟨h3.1, h2⟩)).grown hg_ hb (by simp) (by simp) (by simp) (by simp)); have hR := qa.mk (Kd.R_grown HR.out hg_ (by simp)); have HL := qa.mk ho; have HNW := qa.mk hnew; clear ST HR BB y0 y1 y2 ho hb hg_ hnew; have ST := hS; have HR := hR; clear hS hR)
       | ((with_reducible refine ze (N := 48) rfl ?_); refine Kd.R_append_rows k26 (Rr := k26.K W7) (w0 := W7) (W := W7) w.heap.size rfl (.tmp 46) (.tmp 47) 27 26 (.agg #[(.string ⟨#[]⟩), (.int .i64 0), (.string ⟨#[]⟩)]) 40 rfl Tryd.underlying27 info26 rfl (by decide) (by omega) v46 [(⟨a.f0, 12, s⟩ : S26)] l A8 l.length c8 (fun _ => True) (fun _ => False) rfl rfl HL.out (Kd.xw HR.out).2.2 (fun x cs h => by rw [k26_open h]; exact xy _ _ _ x) (fun _ hk => hk.elim) (fun _ _ => trivial) (Below.refl _ _) ST.out.k.1 (by have := LM.out; simp; omega) ?_; intro v1 W8 ho hb hg ho'; have hS := qa.mk (((ST.out.mono (ok' := fun k => some k ≠ v46.ownBlock ∧ k < W7.heap.size) (fun k _ h2 h3 => ⟨ne_new (v := .slice A8 l.length c8) (.inr HNW.out) h3, h2⟩)).grown hg hb (Kd.R_base HL.out) (Kd.R_ne HL.out ST.out.b2 (by decide)) (Kd.R_ne HL.out ST.out.b3 (by decide)) (fun _ h => h.1)).mono (ok' := fun k => some k ≠ v1.ownBlock) (fun k _ _ h3 => ne_new ho' h3)); have hR := qa.mk ho; clear ST HR HL HNW ho hb hg ho'; have ST := hS; have HR := hR; clear hS hR))
      go_roundg k2
      case measure => omega
      case rel => exact ⟨j + 1, [(⟨a.f0, 12, s⟩ : S26)] ++ l, by rw [WJ.out], ⟨by have := hj.out; omega⟩, ⟨by rw [List.take_add_one, HRJ.out]; exact SpR.snoc hsl.out SP.out⟩, ST, HR⟩
     ·subst hxx
      clear hx0 hx1
      go_upto_region 15 with (fail)
      obtain ⟨s, hs⟩ : ∃ s, s = a.f2 := ⟨_, rfl⟩
      have SP := qa.mk (show SpA a ⟨a.f0, 12, s⟩ from ⟨rfl, rfl, .inl hs⟩)
      rw [← hs] at BB
      clear hs z2 zb zf
      obtain ⟨W6, hW6⟩ : ∃ W, W = W4 := ⟨_, rfl⟩
      subst hW6
      have y0 : W6.cell? ⟨gB, 0, none⟩ = some (.string a.f0) := (qf BB.out 0).trans rfl
      have y1 : W6.cell? ⟨gB, 1, none⟩ = some (.int .i64 12) := (qf BB.out 1).trans rfl
      have y2 : W6.cell? ⟨gB, 2, none⟩ = some (.string s) := (qf BB.out 2).trans rfl
      have LM := qa.mk (show l.length ≤ 1000 by have h1 := hsl.out.1; have h2 := hrs.out.1; rw [List.length_take] at h1; omega)
      go_wp2_with (first
       | ((with_reducible refine ze (N := 46) rfl ?_); refine Kd.R_lit k26 (w0 := W6) (W := W6) w.heap.size 26 ?hg (N := 46) ?hd (xs := [(⟨a.f0, 12, s⟩ : S26)]) (inner := [.string a.f0, .int .i64 12, .string s]) (ok := fun _ => True) (okp := fun _ => True) ?hr ?hp (fun _ hk => hk) trivial (Below.refl _ _) ST.out.k.1 (by simp) ?_; (case hd => rfl); (case hg => rfl); (case hr => first | (go_simp; done) | (go_simp; rfl)); (case hp => exact (Reps.c3 (show Kd.M k26 _ _ _ (⟨a.f0, 12, s⟩ : S26) [.string a.f0, .int .i64 12, .string s] from (xy _ _ _ (⟨a.f0, 12, s⟩ : S26))) (Reps.none _ _))); intro v46 W7 ho hb hg_ hnew; have hS := qa.mk ((ST.out.mono (ok' := fun k => some k ≠ (Value.slice A8 l.length c8).ownBlock ∧ k < W6.heap.size) (fun k _ h2 h3 => ⟨h3.1, h2⟩)).grown hg_ hb (by simp) (by simp) (by simp) (by simp)); have hR := qa.mk (Kd.R_grown HR.out hg_ (by simp)); have HL := qa.mk ho; have HNW := qa.mk hnew; clear ST HR BB y0 y1 y2 ho hb hg_ hnew; have ST := hS; have HR := hR; clear hS hR)
       | ((with_reducible refine ze (N := 48) rfl ?_); refine Kd.R_append_rows k26 (Rr := k26.K W7) (w0 := W7) (W := W7) w.heap.size rfl (.tmp 46) (.tmp 47) 27 26 (.agg #[(.string ⟨#[]⟩), (.int .i64 0), (.string ⟨#[]⟩)]) 40 rfl Tryd.underlying27 info26 rfl (by decide) (by omega) v46 [(⟨a.f0, 12, s⟩ : S26)] l A8 l.length c8 (fun _ => True) (fun _ => False) rfl rfl HL.out (Kd.xw HR.out).2.2 (fun x cs h => by rw [k26_open h]; exact xy _ _ _ x) (fun _ hk => hk.elim) (fun _ _ => trivial) (Below.refl _ _) ST.out.k.1 (by have := LM.out; simp; omega) ?_; intro v1 W8 ho hb hg ho'; have hS := qa.mk (((ST.out.mono (ok' := fun k => some k ≠ v46.ownBlock ∧ k < W7.heap.size) (fun k _ h2 h3 => ⟨ne_new (v := .slice A8 l.length c8) (.inr HNW.out) h3, h2⟩)).grown hg hb (Kd.R_base HL.out) (Kd.R_ne HL.out ST.out.b2 (by decide)) (Kd.R_ne HL.out ST.out.b3 (by decide)) (fun _ h => h.1)).mono (ok' := fun k => some k ≠ v1.ownBlock) (fun k _ _ h3 => ne_new ho' h3)); have hR := qa.mk ho; clear ST HR HL HNW ho hb hg ho'; have ST := hS; have HR := hR; clear hS hR))
      go_roundg k2
      case measure => omega
      case rel => exact ⟨j + 1, [(⟨a.f0, 12, s⟩ : S26)] ++ l, by rw [WJ.out], ⟨by have := hj.out; omega⟩, ⟨by rw [List.take_add_one, HRJ.out]; exact SpR.snoc hsl.out SP.out⟩, ST, HR⟩
end Go.Proofs.YtjhlinifnjoefaaDoor.C
end
section
namespace Go.Proofs.YtjhlinifnjoefaaDoor.Pl
open Go.RowKit Go.Proofs.YtjhlinifnjoefaaDoorW.PrintWords Go.Proofs.YtjhlinifnjoefaaDoor.C
set_option linter.unusedSimpArgs false
set_option linter.unusedVariables false
theorem eqA_iff (a b : S26) : eqA a b = true ↔ a.f0.toList = b.f0.toList ∧ (F a.f2).toList = (F b.f2).toList := by
 unfold eqA
 by_cases h : a.f0.toList = b.f0.toList
 ·rw [if_pos h]
  exact ⟨fun e => ⟨h, beq_iff_eq.1 e⟩, fun e => beq_iff_eq.2 e.2⟩
 ·rw [if_neg h]
  exact ⟨fun e => absurd e (by simp), fun e => absurd e.1 h⟩
theorem hasS_iff (l : List S26) (a : S26) : hasS l a = true ↔ ∃ b ∈ l, eqA a b = true := by unfold hasS; exact List.any_eq_true
theorem sameS_iff (a b : List S26) : sameS a b = true ↔ a.length = b.length ∧ (∀ x ∈ a, hasS b x = true) ∧ (∀ y ∈ b, hasS a y = true) := by
 unfold sameS
 rw [Bool.and_eq_true, decide_eq_true_iff, List.all_eq_true]
 constructor
 ·rintro ⟨hl, h⟩
  refine ⟨hl, fun x hx => ?_, fun y hy => ?_⟩
  ·obtain ⟨i, hi, rfl⟩ := List.getElem_of_mem hx
   have := h (a[i], b[i]) (by rw [← List.getElem_zip (h := by rw [List.length_zip]; omega)]; exact List.getElem_mem _)
   exact (Bool.and_eq_true_iff.1 this).1
  ·obtain ⟨i, hi, rfl⟩ := List.getElem_of_mem hy
   have := h (a[i], b[i]) (by rw [← List.getElem_zip (h := by rw [List.length_zip]; omega)]; exact List.getElem_mem _)
   exact (Bool.and_eq_true_iff.1 this).2
 ·rintro ⟨hl, h1, h2⟩
  refine ⟨hl, fun p hp => ?_⟩
  have := List.of_mem_zip (a := p.1) (b := p.2) hp
  rw [h1 _ this.1, h2 _ this.2]
  rfl
theorem eqA_refl (a : S26) : eqA a a = true := (eqA_iff a a).2 ⟨rfl, rfl⟩
theorem eqA_trans {a b c : S26} (h : eqA a b = true) (k : eqA b c = true) : eqA a c = true :=
 (eqA_iff a c).2 ⟨((eqA_iff a b).1 h).1.trans ((eqA_iff b c).1 k).1, ((eqA_iff a b).1 h).2.trans ((eqA_iff b c).1 k).2⟩
theorem sameS_refl (a : List S26) : sameS a a = true := (sameS_iff a a).2 ⟨rfl, fun x hx => (hasS_iff _ _).2 ⟨x, hx, eqA_refl x⟩, fun x hx => (hasS_iff _ _).2 ⟨x, hx, eqA_refl x⟩⟩
theorem sameS_symm {a b : List S26} (h : sameS a b = true) : sameS b a = true := let ⟨h0, h1, h2⟩ := (sameS_iff a b).1 h; (sameS_iff b a).2 ⟨h0.symm, h2, h1⟩
theorem hasS_trans {b c : List S26} {x : S26} (h : hasS b x = true) (k : ∀ y ∈ b, hasS c y = true) : hasS c x = true := by
 obtain ⟨y, hy, hxy⟩ := (hasS_iff _ _).1 h
 obtain ⟨z, hz, hyz⟩ := (hasS_iff _ _).1 (k y hy)
 exact (hasS_iff _ _).2 ⟨z, hz, eqA_trans hxy hyz⟩
theorem sameS_trans {a b c : List S26} (h : sameS a b = true) (k : sameS b c = true) : sameS a c = true :=
 let ⟨h0, h1, h2⟩ := (sameS_iff a b).1 h; let ⟨k0, k1, k2⟩ := (sameS_iff b c).1 k
 (sameS_iff a c).2 ⟨h0.trans k0, fun x hx => hasS_trans (h1 x hx) k1, fun z hz => hasS_trans (k2 z hz) h2⟩
theorem ke (n b : List (List S26)) : withinS n b = true ↔ b.length ≤ n.length ∧ ∀ (i : Nat) (x y : List S26), n[i]? = some x → b[i]? = some y → sameS x y = true := by
 unfold withinS
 rw [Bool.and_eq_true, decide_eq_true_iff, List.all_eq_true]
 constructor
 ·rintro ⟨hl, h⟩
  refine ⟨hl, fun i x y hx hy => ?_⟩
  obtain ⟨h1, e1⟩ := List.getElem?_eq_some_iff.1 hx
  obtain ⟨h2, e2⟩ := List.getElem?_eq_some_iff.1 hy
  exact h (x, y) (by rw [← e1, ← e2, ← List.getElem_zip (h := by rw [List.length_zip]; omega)]; exact List.getElem_mem _)
 ·rintro ⟨hl, h⟩
  refine ⟨hl, fun p hp => ?_⟩
  obtain ⟨i, hi, rfl⟩ := List.getElem_of_mem hp
  rw [List.length_zip] at hi
  rw [List.getElem_zip]
  exact h i _ _ (List.getElem?_eq_getElem (by omega)) (List.getElem?_eq_getElem (by omega))
theorem km (a b : List (List S26)) : matchS a b = true ↔ a.length = b.length ∧ withinS a b = true := by unfold matchS; rw [Bool.and_eq_true, decide_eq_true_iff]
theorem withinS_trans {a b c : List (List S26)} (h : withinS a b = true) (k : withinS b c = true) : withinS a c = true := by
 obtain ⟨h0, h1⟩ := (ke a b).1 h
 obtain ⟨k0, k1⟩ := (ke b c).1 k
 refine (ke a c).2 ⟨by omega, fun i x z hx hz => ?_⟩
 obtain ⟨hi, _⟩ := List.getElem?_eq_some_iff.1 hz
 exact sameS_trans (h1 i x _ hx (List.getElem?_eq_getElem (by omega))) (k1 i _ z (List.getElem?_eq_getElem (by omega)) hz)
theorem withinS_symm {a b : List (List S26)} (hl : a.length = b.length) (h : withinS a b = true) : withinS b a = true := by
 obtain ⟨h0, h1⟩ := (ke a b).1 h
 exact (ke b a).2 ⟨by omega, fun i x y hx hy => sameS_symm (h1 i y x hy hx)⟩
theorem withinS_refl (a : List (List S26)) : withinS a a = true := (ke a a).2 ⟨Nat.le_refl _, fun i x y hx hy => by rw [hx] at hy; injection hy with hy; rw [hy]; exact sameS_refl y⟩
theorem matchS_refl (a : List (List S26)) : matchS a a = true := (km a a).2 ⟨rfl, withinS_refl a⟩
theorem matchS_comm (a b : List (List S26)) : matchS a b = matchS b a :=
 Bool.eq_iff_iff.2 ⟨fun h => let ⟨h0, h1⟩ := (km a b).1 h; (km b a).2 ⟨h0.symm, withinS_symm h0 h1⟩, fun h => let ⟨h0, h1⟩ := (km b a).1 h; (km a b).2 ⟨h0.symm, withinS_symm h0 h1⟩⟩
theorem matchS_both (a b : List (List S26)) : matchS a b = (withinS a b && withinS b a) := by
 refine Bool.eq_iff_iff.2 ⟨fun h => ?_, fun h => ?_⟩
 ·obtain ⟨h0, h1⟩ := (km a b).1 h
  rw [h1, withinS_symm h0 h1]
  rfl
 ·obtain ⟨h1, h2⟩ := Bool.and_eq_true_iff.1 h
  exact (km a b).2 ⟨Nat.le_antisymm ((ke b a).1 h2).1 ((ke a b).1 h1).1, h1⟩
theorem bytes_space (s : ByteArray) : bytesOf ((⟨#[32]⟩ : ByteArray) ++ s) = 32 :: bytesOf s := by
 unfold bytesOf
 rw [show ((⟨#[32]⟩ : ByteArray) ++ s).data.toList = (L (⟨#[32]⟩ : ByteArray)) ++ L s from L_append _ _]
 rfl
theorem bytes_low (s : ByteArray) : bytesOf (strOfNums ((bytesOf s).map lowC)) = (bytesOf s).map lowC := by
 have hL : (strOfNums ((bytesOf s).map lowC)).data.toList = (L s).map fun b => UInt8.ofNat (lowC (b.toNat : Int)).toNat := by
  rw [strOfNums_data, List.map_map]
  unfold bytesOf
  rw [List.map_map]
  rfl
 rw [show bytesOf (strOfNums ((bytesOf s).map lowC)) = (strOfNums ((bytesOf s).map lowC)).data.toList.map (fun b => (b.toNat : Int)) from rfl, hL]
 unfold bytesOf
 rw [List.map_map, List.map_map]
 apply List.map_congr_left
 intro b _
 exact low_byte b
theorem SpA_eq {x y : S26} (h : SpA x y) : eqA x y = true := by
 obtain ⟨h0, _, h2⟩ := h
 refine (eqA_iff x y).2 ⟨by rw [h0], ?_⟩
 have : F y.f2 = F x.f2 := by
  unfold F
  rcases h2 with h2 | h2 | h2
  ·rw [h2]
  ·rw [h2, bytes_space, foldP_space]
  ·unfold xd.f at h2
   split at h2
   ·injection h2 with h2
    rw [← h2, bytes_low, foldP_low]
   ·cases h2
 rw [this]
theorem SpR_same {r l : List S26} (h : SpR r l) : sameS r l = true :=
 (sameS_iff r l).2 ⟨h.1.symm, fun x hx => let ⟨y, hy, hs⟩ := h.2.1 x hx; (hasS_iff _ _).2 ⟨y, hy, SpA_eq hs⟩, fun y hy => let ⟨x, hx, hs⟩ := h.2.2 y hy; (hasS_iff _ _).2 ⟨x, hx, by rw [eqA_comm]; exact SpA_eq hs⟩⟩
theorem SpN_within {n m : List (List S26)} (h : SpN n m n.length) : withinS n m = true :=
 (ke n m).2 ⟨by rw [h.1]; exact Nat.le_refl _, fun i x y hx hy => SpR_same (h.2 i x y (by obtain ⟨hi, _⟩ := List.getElem?_eq_some_iff.1 hx; exact hi) hx hy)⟩
theorem within_take (n : List (List S26)) (j : Nat) : withinS n (n.take j) = true :=
 (ke n _).2 ⟨by rw [List.length_take]; omega, fun i x y hx hy => by
  obtain ⟨hi, _⟩ := List.getElem?_eq_some_iff.1 hy
  rw [List.length_take] at hi
  rw [List.getElem?_take_of_lt (by omega), hx] at hy
  injection hy with hy
  rw [hy]
  exact sameS_refl y⟩
theorem made12_small : ∀ a ∈ made12, a.f2.size ≤ 100 := by decide +kernel
theorem RelMade_fine {r : List S26} (h : RelMade r) : r.length ≤ 2 ∧ ∀ a ∈ r, a.f2.size ≤ 100 := by
 rcases h with ⟨a, ha, rfl⟩ | ⟨a, b, ha, hb, _, rfl⟩
 ·exact ⟨by simp, fun x hx => by obtain rfl := List.mem_singleton.1 hx; exact made12_small x ha⟩
 ·refine ⟨by simp, fun x hx => ?_⟩
  rcases List.mem_cons.1 hx with rfl | hx
  ·exact made12_small x ha
  ·obtain rfl := List.mem_singleton.1 hx
   exact made12_small x hb
def Tiny (B : Nat) (n : List (List S26)) : Prop := n.length ≤ 3 ∧ ∀ r ∈ n, r.length ≤ 2 ∧ ∀ a ∈ r, a.f2.size ≤ B
theorem Tiny.made {n : List (List S26)} (h : n.length ≤ 3) (h2 : ∀ r ∈ n, RelMade r) : Tiny 100 n := ⟨h, fun r hr => RelMade_fine (h2 r hr)⟩
theorem Tiny.fine {B : Nat} {n : List (List S26)} (h : Tiny B n) (hB : B ≤ 1000000) : FineN n := ⟨by have := h.1; omega, fun r hr => ⟨by have := (h.2 r hr).1; omega, fun a ha => by have := (h.2 r hr).2 a ha; omega⟩⟩
theorem Tiny.short {B : Nat} {n : List (List S26)} (h : Tiny B n) (hB : B ≤ 1000000) : Short n := ⟨by have := h.1; omega, fun r hr => ⟨by have := (h.2 r hr).1; omega, fun a ha => by have := (h.2 r hr).2 a ha; omega⟩⟩
theorem Tiny.take {B : Nat} {n : List (List S26)} (h : Tiny B n) (j : Nat) : Tiny B (n.take j) := ⟨by rw [List.length_take]; have := h.1; omega, fun r hr => h.2 r (List.mem_of_mem_take hr)⟩
theorem SpA_size {x y : S26} (h : SpA x y) : y.f2.size ≤ x.f2.size + 1 := by
 rcases h.2.2 with h2 | h2 | h2
 ·rw [h2]; omega
 ·rw [h2, ByteArray.size_append, show (⟨#[32]⟩ : ByteArray).size = 1 from rfl]; omega
 ·unfold xd.f at h2
  split at h2
  ·injection h2 with h2
   rw [← h2, strOfNums_size, List.length_map, bytesOf_length]
   omega
  ·cases h2
theorem Tiny.spell {B : Nat} {n m : List (List S26)} (h : Tiny B n) (hs : SpN n m n.length) : Tiny (B + 1) m := by
 refine ⟨by rw [hs.1]; exact h.1, fun l hl => ?_⟩
 obtain ⟨i, hi, rfl⟩ := List.getElem_of_mem hl
 have hin : i < n.length := by rw [← hs.1]; exact hi
 have sp := hs.2 i n[i] m[i] hin (List.getElem?_eq_getElem hin) (List.getElem?_eq_getElem hi)
 have h2 := h.2 n[i] (List.getElem_mem hin)
 refine ⟨by rw [sp.1]; exact h2.1, fun y hy => ?_⟩
 obtain ⟨x, hx, hxy⟩ := sp.2.2 y hy
 have := h2.2 x hx
 have := SpA_size hxy
 omega
end Go.Proofs.YtjhlinifnjoefaaDoor.Pl
end
section
namespace Go.Proofs.YtjhlinifnjoefaaDoor.C
open Go.RowKit Go.Proofs.YtjhlinifnjoefaaDoorW.PrintWords Go.Proofs.YtjhlinifnjoefaaDoorW.PrintLast Go.Proofs.YtjhlinifnjoefaaDoorW.PrintMore Go.Proofs.YtjhlinifnjoefaaDoor.Pl
set_option linter.unusedVariables false
def KeepT (g : Nat) (W W' : World) : Prop := W.heap.size ≤ W'.heap.size ∧ ∀ i, i < W.heap.size → i ≠ g → (∀ cs fr, W.heap[i]? ≠ some (.cells cs 24 fr)) → W'.heap[i]? = W.heap[i]?
theorem KeepT.of {g : Nat} {W W' : World} (h : KeepBut W W' g none) : KeepT g W W' := ⟨h.1, fun i hi hg _ => h.2 i hi hg (by simp)⟩
theorem KeepT.trans {g : Nat} {W W1 W2 : World} (h : KeepT g W W1) (k : KeepT g W1 W2) : KeepT g W W2 :=
 ⟨Nat.le_trans h.1 k.1, fun i hi hg ht => by
  have e := h.2 i hi hg ht
  rw [← e]
  exact k.2 i (Nat.lt_of_lt_of_le hi h.1) hg (by rw [e]; exact ht)⟩
theorem KeepT.set {g q : Nat} {W : World} {cs : Array Value} {fr : Nat × Nat} (h : W.heap[q]? = some (.cells cs 24 fr)) (j : Nat) (u : Value) : KeepT g W (W.setCell ⟨q, j, none⟩ u) :=
 ⟨by simp [World.setCell], fun i hi hg ht => Below.heap_setCell W ⟨q, j, none⟩ u i (fun e => ht cs fr (by rw [e]; exact h))⟩
structure NameAt (g : Nat) (W : World) (A : Option Addr) (c : Nat) (n : List (List S26)) : Prop where
 foot : ∀ W', KeepT g W W' → Kd.C (Kd.slice 26 k26) W' A n.length n
 blk : ∀ ad, A = some ad → 0 < n.length → ad.block ≠ g ∧ ad.block < W.heap.size
 cap : n.length ≤ c
theorem NameAt.now {g : Nat} {W : World} {A : Option Addr} {c : Nat} {n : List (List S26)} (h : NameAt g W A c n) : Kd.C (Kd.slice 26 k26) W A n.length n := h.foot W (KeepT.of (KeepBut.refl _ _ _))
theorem NameAt.keep {g : Nat} {W W' : World} {A : Option Addr} {c : Nat} {n : List (List S26)} (h : NameAt g W A c n) (hk : KeepT g W W') : NameAt g W' A c n :=
 ⟨fun W2 h2 => h.foot W2 (hk.trans h2), fun ad e hp => ⟨(h.blk ad e hp).1, Nat.lt_of_lt_of_le (h.blk ad e hp).2 hk.1⟩, h.cap⟩
theorem NameAt.take {g : Nat} {W : World} {A : Option Addr} {c : Nat} {n : List (List S26)} (h : NameAt g W A c n) (j : Nat) (hj : j ≤ n.length) : NameAt g W A c (n.take j) :=
 ⟨fun W2 h2 => Kd.C_take (h.foot W2 h2) hj, fun ad e hp => h.blk ad e (by rw [List.length_take] at hp; omega), by rw [List.length_take]; have := h.cap; omega⟩
theorem NameAt.of_S {g base : Nat} {W : World} {A : Option Addr} {c : Nat} {n : List (List S26)} (h : Kd.S (Kd.slice 26 k26) 27 W base (fun k => k ≠ g) (.slice A n.length c) n) : NameAt g W A c n := by
 refine ⟨fun W' hk => (Kd.kd (Kd.S_step (Kd.S_bound h) (fun k ho hlt => hk.2 k hlt ho.1 (fun cs fr e => by
  obtain ⟨q, hq, cells, hc⟩ := ho.2.2.2
  rw [e] at hc
  injection hc with hc
  injection hc with _ h2
  subst h2
  revert hq
  decide)))).2.2, fun ad e hp => ?_, (Kd.kd h).2.1⟩
 subst e
 have ho : (Value.slice (some ad) n.length c).ownBlock = some ad.block := by simp [Value.ownBlock]
 exact ⟨(Kd.S_R h).1 _ ho, Kd.S_lt h _ ho⟩
theorem matchT (W : World) {g1 g2 : Nat} {Aa Ab : Option Addr} {ca cb : Nat} {a b : List (List S26)} (ha : NameAt g1 W Aa ca a) (hb : NameAt g2 W Ab cb b) (fa : FineN a) (fb : FineN b) {r : Bool} (h : matchS a b = r) :
  Calls Tryd.prog 15 #[.agg #[.slice Aa a.length ca], .agg #[.slice Ab b.length cb]] W fun e w' => e = .returned (.bool r) ∧ Below W.heap.size W w' := by
 obtain ⟨k, hk⟩ := (MatchN_t a b fa fb).rounds
 rw [h] at hk
 exact zx.calls k Aa ca a Ab cb b r W ha.now ha.cap hb.now hb.cap hk
theorem withinT (W : World) {g1 g2 : Nat} {Aa Ab : Option Addr} {ca cb : Nat} {a b : List (List S26)} (ha : NameAt g1 W Aa ca a) (hb : NameAt g2 W Ab cb b) (fa : FineN a) (fb : FineN b) {r : Bool} (h : withinS a b = r) :
  Calls Tryd.prog 17 #[.agg #[.slice Aa a.length ca], .agg #[.slice Ab b.length cb]] W fun e w' => e = .returned (.bool r) ∧ Below W.heap.size W w' := by
 obtain ⟨k, hk⟩ := (Within_t a b fa fb).rounds
 rw [h] at hk
 exact qx.calls k Aa ca a Ab cb b r W ha.now ha.cap hb.now hb.cap hk
theorem awake_ev : Ev (fun k => zp.f k) true := Ev.of (zp.mono) (k := 60) (by kernel_rfl)
theorem awakeT (W : World) (hG : LibHeld W) : Calls Tryd.prog 9 #[] W fun e w' => e = .returned (.bool true) ∧ Below W.heap.size W w' := by
 obtain ⟨k, hk⟩ := awake_ev.rounds
 exact zp.calls k true W hG hk
theorem newT (W : World) (A : Option Addr) (c : Nat) (l : List Int) (hl : Kd.C (Kd.int .i64) W A l.length l) (hc : l.length ≤ c) (hL : l.length ≤ 140737488351232) :
  Calls Tryd.prog 11 #[.slice A l.length c] W fun e w' => ∃ g, e = .returned (.pointer (some ⟨g, 0, none⟩)) ∧ DK W w' g ∧ Below W.heap.size W w' := by
 refine (certpathmade_New.calls A c l l 0 W W (Below.refl _ _) hl hc rfl).mono ?_
 rintro e w' ⟨g, rfl, hi, hb, _⟩
 exact ⟨g, rfl, ⟨l, 0, hi, Int.le_refl _, by omega, hL⟩, hb⟩
theorem spellT (W0 W : World) {g : Nat} {A : Option Addr} {c : Nat} {n : List (List S26)} (hI : DK W0 W g) (hB : Below W0.heap.size W0 W) (hn : NameAt g W A c n) (hs : Short n) :
  Calls Tryd.prog 13 #[.pointer (some ⟨g, 0, none⟩), .agg #[.slice A n.length c]] W fun e w' => ∃ (B : Option Addr) (d : Nat) (m : List (List S26)), e = .returned (.agg #[.slice B m.length d]) ∧ SpN n m n.length ∧ NameAt g w' B d m ∧ DK W0 w' g ∧ Below W0.heap.size W0 w' ∧ KeepBut W w' g none := by
 refine (spelled_weak g W0 W A c n hI hB (fun W' hk => hn.foot W' (KeepT.of hk)) hn.blk hn.cap hs).mono ?_
 rintro e w' ⟨v, m, rfl, hsp, hS, hd, hb, hk⟩
 obtain ⟨B, d, rfl⟩ := Kd.xz hS
 exact ⟨B, d, m, rfl, hsp, NameAt.of_S hS, hd, hb, hk⟩
theorem nameT (W0 W : World) {g : Nat} (hI : DK W0 W g) (hB : Below W0.heap.size W0 W) :
  Calls Tryd.prog 12 #[.pointer (some ⟨g, 0, none⟩)] W fun e w' => ∃ (B : Option Addr) (d : Nat) (m : List (List S26)), e = .returned (.agg #[.slice B m.length d]) ∧ Tiny 100 m ∧ (∀ r ∈ m, RelMade r) ∧ NameAt g w' B d m ∧ DK W0 w' g ∧ Below W0.heap.size W0 w' ∧ KeepBut W w' g none := by
 refine (name_weak g W0 W hI hB).mono ?_
 rintro e w' ⟨v, m, rfl, hl, hr, hS, hd, hb, hk⟩
 obtain ⟨B, d, rfl⟩ := Kd.xz hS
 exact ⟨B, d, m, rfl, Tiny.made hl hr, hr, NameAt.of_S hS, hd, hb, hk⟩
end Go.Proofs.YtjhlinifnjoefaaDoor.C
end
