/- Words, walks and plain laws that the claim rests on, gathered. -/
import Derived.Below
import Derived.Deep.Draws
import Derived.Deep.AppendLies
import Derived.Maps.AppendAt
import Derived.OwnWalk
import Derived.Laws.BytesArg
import Derived.Laws.MakeOwn
import Derived.Laws.OwnMore
import Derived.Deep.OwnRows
import Derived.Tactics
import Derived.Lib.ConvBytes
import Derived.Laws.Slices
import Derived.WalkKit
import Derived.KernelRfl
import Derived.RowKit3
import Derived.Deep.LoopGhost
import Derived.Deep.QuietTactic
import Derived.BigQuiet
import Derived.WideLaws
import Derived.Deep.DeepCutAuto
import Derived.Deep.CutBlock
import Derived.Deep.RegionHeld3
import Derived.Laws.Rows
import Derived.Lib.AppendStr
import Derived.ArgAppend
import Derived.Laws.IdiomCopy
import Derived.RowKit
import Derived.Lib.SplitLaws
import Derived.OrdersHeld
import Derived.Laws.BitsLemmas
import Derived.Deep.Slices
import Derived.Deep.Strs
import Derived.ChangeSame
import Derived.WideShapes
import Derived.Laws.StructEq
import Derived.Test.YtjhlinifnjoefaaDoorProg
import Derived.WalkSpells
import Derived.Shelf.Small.Strs
import Derived.Shelf.Strings.Search1
import Derived.Shelf.Strings.Search2
import Derived.Shelf.Strings.Search3
import Derived.Shelf.Strings.Cut
import Derived.Shelf.Strings.Count
import Derived.Shelf.LaysM
import Derived.Shelf.Strings.Shaped
import Derived.Shelf.Strings.Prefix
import Derived.Shelf.Strings.Split
import Derived.Shelf.Strings.SplitShaped
import Derived.Shelf.Unicode.DecodeSlow
import Derived.Test.YtjhlinifnjoefaaDoorNA0
import Derived.Test.YtjhlinifnjoefaaDoorNA1
import Derived.Test.YtjhlinifnjoefaaDoorNA2
import Derived.Test.YtjhlinifnjoefaaDoorNA3
import Derived.Test.YtjhlinifnjoefaaDoorNA4
import Derived.Test.YtjhlinifnjoefaaDoorNA5
import Derived.Test.YtjhlinifnjoefaaDoorNA6
import Derived.Test.YtjhlinifnjoefaaDoorNA7
import Derived.Test.YtjhlinifnjoefaaDoorNA8
import Derived.Test.YtjhlinifnjoefaaDoorNA9
import Derived.Test.YtjhlinifnjoefaaDoorNA10
import Derived.Test.YtjhlinifnjoefaaDoorNA11
namespace Go.Proofs.YtjhlinifnjoefaaDoorW.PrintLast
end Go.Proofs.YtjhlinifnjoefaaDoorW.PrintLast
namespace Go.Proofs.YtjhlinifnjoefaaDoorW.PrintMore
end Go.Proofs.YtjhlinifnjoefaaDoorW.PrintMore
namespace Go.Proofs.YtjhlinifnjoefaaDoorW.PrintWords
end Go.Proofs.YtjhlinifnjoefaaDoorW.PrintWords
section
namespace Go.Proofs.YtjhlinifnjoefaaDoor.C
open Go.RowKit Go.ChangeShapes Go.WideShapes Go.Proofs.YtjhlinifnjoefaaDoorW.PrintWords Go.Proofs.YtjhlinifnjoefaaDoor.Pl
set_option linter.unusedVariables false
section
variable {H : Type} {enc : TypeId × Value → H} {W : World} {sp : Nat → Bool} {held : Bool}
def BigR (l : List S26) : Prop := l.length ≤ 9223372036854775807
def BigN (n : List (List S26)) : Prop := n.length ≤ 9223372036854775807 ∧ ∀ r ∈ n, BigR r
theorem open_attrs {fuel : Nat} {cs : List Value} {x : DataW H × List MemPlace} (h : DataW.trod enc Tryd.prog W 0 sp held fuel 27 cs = some x) :
    ∃ (A : Option Addr) (c : Nat) (l : List S26), cs = [.slice A l.length c] ∧ Kd.C k26 W A l.length l ∧ l.length ≤ c ∧ BigR l := by
  rcases Deep.open_slice Tryd.underlying27 h with ⟨rfl, _⟩ | ⟨a, len, cap, m, n, D, Pl, rfl, hb, hl, hm, hmm, _, hx⟩
  · exact ⟨none, 0, [], rfl, Kd.C_nil _ _, Nat.le_refl _, Nat.zero_le _⟩
  · have hlm : len ≤ m := by rw [hmm]; split <;> omega
    have ce : Tryd.prog.cellsOf 26 = 3 := by kernel_rfl
    have c9 : Tryd.prog.cellsOf 9 = 1 := by kernel_rfl
    have c3 : Tryd.prog.cellsOf 3 = 1 := by kernel_rfl
    have each : ∀ i, i < len → ∃ q : S26, W.cell? (a.add (i * 3)) = some (.string q.f0) ∧ W.cell? (a.add (i * 3 + 1)) = some (.int .i64 q.f1) ∧ W.cell? (a.add (i * 3 + 2)) = some (.string q.f2) := by
      intro i hi
      obtain ⟨cs', h1, h2⟩ := hx i (by omega)
      rw [ce] at h1
      obtain ⟨_, hlen, hcell⟩ := World.cells?_some h1
      obtain ⟨y0, y1, y2, n', _, _, g0, g1, g2⟩ := Deep.trod_struct3 Tryd.underlying26 h2
      match cs', hlen with
      | [v0, v1, v2], _ =>
        simp [c9, c3] at g0 g1 g2
        obtain ⟨s0, e0, _⟩ := DataW.trod_string Tryd.underlying9 g0
        obtain ⟨n1, e1, _⟩ := DataW.trod_int Tryd.underlying3 g1
        obtain ⟨s2, e2, _⟩ := DataW.trod_string Tryd.underlying9 g2
        injection e0 with e0; injection e1 with e1; injection e2 with e2
        have q0 := hcell 0 (by omega)
        have q1 := hcell 1 (by omega)
        have q2 := hcell 2 (by omega)
        rw [Deep.add_add] at q0 q1 q2
        exact ⟨⟨s0, n1, s2⟩, by rw [← e0]; simpa using q0, by rw [← e1]; simpa using q1, by rw [← e2]; simpa using q2⟩
    haveI : Inhabited S26 := ⟨z26⟩
    obtain ⟨q, hq⟩ := Deep.choose_lt each
    have hlen : ((List.range len).map q).length = len := by simp
    refine ⟨some a, cap, (List.range len).map q, by rw [hlen], ?_, by rw [hlen]; exact hl, by unfold BigR; rw [hlen]; have : cap ≤ 9223372036854775807 := hm; omega⟩
    refine ⟨rfl, by rw [hlen]; have : cap ≤ 9223372036854775807 := hm; omega, fun _ => ⟨a, rfl, fun j p hj => ?_⟩⟩
    obtain ⟨hj1, hj2⟩ := List.getElem?_eq_some_iff.1 hj
    rw [hlen] at hj1
    have hp : p = q j := by rw [← hj2]; simp
    subst hp
    obtain ⟨k0, k1, k2⟩ := hq j hj1
    refine ⟨[.string (q j).f0, .int .i64 (q j).f1, .string (q j).f2], rfl, k26_mk W (q j), fun i u hu => ?_⟩
    match i, hu with
    | 0, hu => obtain rfl : Value.string (q j).f0 = u := by simpa using hu
               exact k0
    | 1, hu => obtain rfl : Value.int .i64 (q j).f1 = u := by simpa using hu
               exact k1
    | 2, hu => obtain rfl : Value.string (q j).f2 = u := by simpa using hu
               exact k2
    | i + 3, hu => simp at hu
theorem open_rels {fuel : Nat} {cs : List Value} {x : DataW H × List MemPlace} (h : DataW.trod enc Tryd.prog W 0 sp held fuel 22 cs = some x) :
  ∃ (A : Option Addr) (c : Nat) (n : List (List S26)), cs = [.slice A n.length c] ∧ Kd.C (Kd.slice 26 k26) W A n.length n ∧ n.length ≤ c ∧ BigN n := by
 rcases Deep.open_slice1 Tryd.underlying22 (by kernel_rfl) h with ⟨rfl, _⟩ | ⟨a, len, cap, m, n, V, D, Pl, rfl, hb, hl, hm, hmm, _, hx⟩
 ·exact ⟨none, 0, [], rfl, Kd.C_nil _ _, Nat.le_refl _, Nat.zero_le _, fun r h => absurd h (by simp)⟩
 ·have hlm : len ≤ m := by rw [hmm]; split <;> omega
  have each : ∀ i, i < len → ∃ l : List S26, BigR l ∧ ∃ (A : Option Addr) (c : Nat), W.cell? (a.add i) = some (.slice A l.length c) ∧ Kd.C k26 W A l.length l ∧ l.length ≤ c := by
   intro i hi
   obtain ⟨h1, h2⟩ := hx i (by omega)
   obtain ⟨A, c, l, e, hC, hc, hB⟩ := open_attrs h2
   injection e with e
   exact ⟨l, hB, A, c, by rw [h1, e], hC, hc⟩
  obtain ⟨q, hq⟩ := Deep.choose_lt each
  have hlen : ((List.range len).map q).length = len := by simp
  refine ⟨some a, cap, (List.range len).map q, by rw [hlen], ?_, by rw [hlen]; exact hl, ?_⟩
  ·refine ⟨rfl, by rw [hlen]; have : cap ≤ 9223372036854775807 := hm; omega, fun _ => ⟨a, rfl, fun j p hj => ?_⟩⟩
   obtain ⟨hj1, hj2⟩ := List.getElem?_eq_some_iff.1 hj
   rw [hlen] at hj1
   have hp : p = q j := by rw [← hj2]; simp
   subst hp
   obtain ⟨_, A, c, k0, k1, k2⟩ := hq j hj1
   refine ⟨[.slice A (q j).length c], rfl, ⟨A, c, rfl, k2, k1⟩, fun i u hu => ?_⟩
   match i, hu with
   | 0, hu =>
    obtain rfl : Value.slice A (q j).length c = u := by simpa using hu
    rw [show j * (Kd.slice 26 k26).sz + 0 = j from by rw [show (Kd.slice 26 k26).sz = 1 from rfl, Nat.mul_one, Nat.add_zero]]
    exact k0
   | i + 1, hu => simp at hu
  ·refine ⟨by rw [hlen]; have : cap ≤ 9223372036854775807 := hm; omega, fun r hr => ?_⟩
   obtain ⟨i, hi, rfl⟩ := List.mem_map.1 hr
   exact (hq i (List.mem_range.1 hi)).1
theorem open_name {r : Reach} {b0 : Nat} {v : Value} {d : DataW H} {ps : List MemPlace} (hval : Value.okWide Tryd.prog W r b0 24 v) (h : DataW.Trod enc Tryd.prog W 0 sp held 24 v d ps) :
  ∃ (A : Option Addr) (c : Nat) (n : List (List S26)), v = .agg #[.slice A n.length c] ∧ Kd.C (Kd.slice 26 k26) W A n.length n ∧ n.length ≤ c ∧ BigN n := by
 obtain ⟨cs, rfl, hsz⟩ := okWide_struct Tryd.underlying24 hval
 have ce : Tryd.prog.cellsOf 24 = 1 := by kernel_rfl
 have c22 : Tryd.prog.cellsOf 22 = 1 := by kernel_rfl
 rw [ce] at hsz
 obtain ⟨fuel, hf⟩ := h
 obtain ⟨y0, n', _, _, g0⟩ := trod_struct1 Tryd.underlying24 hf
 obtain ⟨v0, rfl⟩ : ∃ v0, cs = #[v0] := by
  obtain ⟨l⟩ := cs
  match l, hsz with
  | [v0], _ => exact ⟨v0, rfl⟩
 simp [Value.cells, c22] at g0
 obtain ⟨A, c, n, e, hC, hc, hB⟩ := open_rels g0
 injection e with e
 exact ⟨A, c, n, by rw [e], hC, hc, hB⟩
end
theorem at_c {P : Program} (f : FuncId) {args : Array Value} {w : World} {Q : Ending → World → Prop} (h : Calls P f args w Q) : Calls P f args w Q := h
theorem short_l1 (n : List (List S26)) (hn : BigN n) (i : Nat) (hi : i < n.length) (y : List S26) (hy : y.length ≤ 8) (rest : ∃ r, Ev (fun k => qr.l0 k n (n.length : Int) ((i + 1 : Nat) : Int)) r ∧ (r = true → ∀ q ∈ n.drop (i + 1), Fine q)) :
  ∀ (d j : Nat), j + d = y.length → ∃ r, Ev (fun k => qr.l1 k n (n.length : Int) i y (y.length : Int) j) r ∧ (r = true → (∀ a ∈ y.drop j, a.f2.size ≤ 1000000000) ∧ ∀ q ∈ n.drop (i + 1), Fine q)
 | 0, j, h => by
  obtain ⟨r, hr, hp⟩ := rest
  refine ⟨r, ?_, fun h2 => ⟨fun a ha => ?_, hp h2⟩⟩
  case refine_2 => rw [List.drop_eq_nil_of_le (by omega)] at ha; cases ha
  refine Ev.step (fun k => by rw [qr.l1]) ?_
  rw [w64 (n := (i : Int) + 1) (by omega) (by have := hn.1; omega)]
  exact Ev.neg (by omega) hr
 | d + 1, j, h => by
  have hj : j < y.length := by omega
  obtain ⟨r, hr, hp⟩ := short_l1 n hn i hi y hy rest d (j + 1) (by omega)
  have hd : y.drop j = y[j] :: y.drop (j + 1) := List.drop_eq_getElem_cons hj
  have key : ∀ b : Bool, b = false → (b = true → (∀ a ∈ y.drop j, a.f2.size ≤ 1000000000) ∧ ∀ q ∈ n.drop (i + 1), Fine q) := fun b hb h2 => by rw [hb] at h2; cases h2
  by_cases h0 : (((qn y (j : Int)).f0).size : Int) > 200
  ·refine ⟨false, ?_, key false rfl⟩
   refine Ev.step (fun k => by rw [qr.l1]) ?_
   exact Ev.pos (by omega) (Ev.pos (by omega) (Ev.pos (by omega) (Ev.pos h0 (Ev.now _))))
  ·by_cases h2 : (((qn y (j : Int)).f2).size : Int) > 200
   ·refine ⟨false, ?_, key false rfl⟩
    refine Ev.step (fun k => by rw [qr.l1]) ?_
    exact Ev.pos (by omega) (Ev.pos (by omega) (Ev.pos (by omega) (Ev.neg h0 (Ev.pos h2 (Ev.now _)))))
   ·refine ⟨r, ?_, fun hr2 => ⟨fun a ha => ?_, (hp hr2).2⟩⟩
    ·refine Ev.step (fun k => by rw [qr.l1]) ?_
     rw [w64 (n := (j : Int) + 1) (by omega) (by omega)]
     exact Ev.pos (by omega) (Ev.pos (by omega) (Ev.pos (by omega) (Ev.neg h0 (Ev.neg h2 (by simpa using hr)))))
    ·rw [hd] at ha
     rcases List.mem_cons.1 ha with rfl | ha
     ·rw [at26 hj] at h2
      omega
     ·exact (hp hr2).1 a ha
theorem short_l0 (n : List (List S26)) (hn : BigN n) : ∀ (d i : Nat), i + d = n.length → ∃ r, Ev (fun k => qr.l0 k n (n.length : Int) i) r ∧ (r = true → ∀ q ∈ n.drop i, Fine q)
 | 0, i, h => ⟨true, Ev.step (f := fun _ => some true) (fun k => by rw [qr.l0, if_neg (by omega)]) (Ev.now _), fun _ q hq => by rw [List.drop_eq_nil_of_le (by omega)] at hq; cases hq⟩
 | d + 1, i, h => by
  have hi : i < n.length := by omega
  have hd : n.drop i = n[i] :: n.drop (i + 1) := List.drop_eq_getElem_cons hi
  by_cases h8 : ((xi n (i : Int)).length : Int) > 8
  ·refine ⟨false, ?_, fun h2 => by cases h2⟩
   refine Ev.step (fun k => by rw [qr.l0]) ?_
   exact Ev.pos (by omega) (Ev.pos (by omega) (Ev.pos (by omega) (Ev.pos h8 (Ev.now _))))
  ·obtain ⟨r, hr, hp⟩ := short_l1 n hn i hi (xi n (i : Int)) (by omega) (short_l0 n hn d (i + 1) (by omega)) (xi n (i : Int)).length 0 (by omega)
   refine ⟨r, ?_, fun h2 q hq => ?_⟩
   ·refine Ev.step (fun k => by rw [qr.l0]) ?_
    exact Ev.pos (by omega) (Ev.pos (by omega) (Ev.pos (by omega) (Ev.neg h8 (by simpa using hr))))
   ·rw [hd] at hq
    rcases List.mem_cons.1 hq with rfl | hq
    ·rw [atL4 hi] at hp h8
     exact ⟨by omega, fun a ha => (hp h2).1 a (by simpa using ha)⟩
    ·exact (hp h2).2 q hq
theorem short_f (n : List (List S26)) (hB : BigN n) : ∃ r, (∃ k, qr.f k n = some r) ∧ (r = true → FineN n) := by
 have hf : ∃ r, Ev (fun k => qr.f k n) r ∧ (r = true → FineN n) := by
  unfold qr.f
  by_cases h : (n.length : Int) > 12
  ·exact ⟨false, Ev.pos h (Ev.now _), fun h2 => by cases h2⟩
  ·obtain ⟨r, hr, hp⟩ := short_l0 n hB n.length 0 (by omega)
   exact ⟨r, Ev.neg h (by simpa using hr), fun h2 => ⟨by omega, fun q hq => hp h2 q (by simpa using hq)⟩⟩
 obtain ⟨r, hr, hp⟩ := hf
 exact ⟨r, hr.rounds, hp⟩
theorem matchT2 (W : World) {Aa Ab : Option Addr} {ca cb : Nat} {a b : List (List S26)} (ha : Kd.C (Kd.slice 26 k26) W Aa a.length a) (hca : a.length ≤ ca) (hb : Kd.C (Kd.slice 26 k26) W Ab b.length b) (hcb : b.length ≤ cb) (fa : FineN a) (fb : FineN b) {r : Bool} (h : matchS a b = r) :
  Calls Tryd.prog 15 #[.agg #[.slice Aa a.length ca], .agg #[.slice Ab b.length cb]] W fun e w' => e = .returned (.bool r) ∧ Below W.heap.size W w' := by
 obtain ⟨k, hk⟩ := (MatchN_t a b fa fb).rounds
 rw [h] at hk
 exact xj.calls k Aa ca a Ab cb b r W ha hca hb hcb hk
theorem matchR2 (W : World) {Aa Ab : Option Addr} {ca cb : Nat} {a b : List (List S26)} (ha : Kd.C (Kd.slice 26 k26) W Aa a.length a) (hca : a.length ≤ ca) (hb : Kd.C (Kd.slice 26 k26) W Ab b.length b) (hcb : b.length ≤ cb) (fa : FineN a) (fb : FineN b) {r : Bool} (h : matchS a b = r) :
  Calls Tryd.prog 16 #[.agg #[.slice Aa a.length ca], .agg #[.slice Ab b.length cb]] W fun e w' => e = .returned (.bool r) ∧ Below W.heap.size W w' := by
 obtain ⟨k, hk⟩ := (MatchN_r a b fa fb).rounds
 rw [h] at hk
 exact xk.calls k Aa ca a Ab cb b r W ha hca hb hcb hk
theorem withinT2 (W : World) {Aa Ab : Option Addr} {ca cb : Nat} {a b : List (List S26)} (ha : Kd.C (Kd.slice 26 k26) W Aa a.length a) (hca : a.length ≤ ca) (hb : Kd.C (Kd.slice 26 k26) W Ab b.length b) (hcb : b.length ≤ cb) (fa : FineN a) (fb : FineN b) {r : Bool} (h : withinS a b = r) :
  Calls Tryd.prog 17 #[.agg #[.slice Aa a.length ca], .agg #[.slice Ab b.length cb]] W fun e w' => e = .returned (.bool r) ∧ Below W.heap.size W w' := by
 obtain ⟨k, hk⟩ := (Within_t a b fa fb).rounds
 rw [h] at hk
 exact q9.calls k Aa ca a Ab cb b r W ha hca hb hcb hk
theorem withinR2 (W : World) {Aa Ab : Option Addr} {ca cb : Nat} {a b : List (List S26)} (ha : Kd.C (Kd.slice 26 k26) W Aa a.length a) (hca : a.length ≤ ca) (hb : Kd.C (Kd.slice 26 k26) W Ab b.length b) (hcb : b.length ≤ cb) (fa : FineN a) (fb : FineN b) {r : Bool} (h : withinS a b = r) :
  Calls Tryd.prog 18 #[.agg #[.slice Aa a.length ca], .agg #[.slice Ab b.length cb]] W fun e w' => e = .returned (.bool r) ∧ Below W.heap.size W w' := by
 obtain ⟨k, hk⟩ := (Within_r a b fa fb).rounds
 rw [h] at hk
 exact qo.calls k Aa ca a Ab cb b r W ha hca hb hcb hk
end Go.Proofs.YtjhlinifnjoefaaDoor.C
end
