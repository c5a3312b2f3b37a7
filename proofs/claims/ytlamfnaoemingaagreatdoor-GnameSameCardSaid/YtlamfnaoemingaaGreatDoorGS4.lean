/- Words, walks and plain laws that the claim rests on, gathered. -/
import Derived.Shelf.Strings.Builder1
import Derived.Shelf.Strings.Builder2
import Derived.Shelf.Strings.OnBuilder
import Derived.Shelf.Small.Bits
import Derived.Shelf.Small.Strs
import Derived.Shelf.Small.Wraps
import Derived.Shelf.Strings.BuilderF
import Derived.Shelf.Strings.BuilderK
import Derived.Shelf.Utf8.RuneCount
import Derived.Shelf.Strings.Builder2Cap
import Derived.Shelf.Strconv.Itoa0
import Derived.Shelf.Strings.Search1
import Derived.Shelf.Strings.Search2
import Derived.Shelf.Strings.Search3
import Derived.Shelf.Strings.Cut
import Derived.Shelf.Strings.Count
import Derived.Shelf.LaysM
import Derived.Shelf.Strings.Shaped
import Derived.Shelf.Sort.Plain
import Derived.Shelf.Strings.Prefix
import Derived.Shelf.Strings.Split
import Derived.Shelf.Strings.SplitShaped
import Derived.Shelf.Unicode.Decode
import Derived.Shelf.Strings.RuneCount
import Derived.Shelf.Strings.Explode
import Derived.Shelf.Unicode.DecodeSlow
import Derived.Shelf.Unicode.DecodeAny
import Derived.Shelf.Strings.BuilderCap
import Derived.Shelf.Slices.In.SortNone
import Derived.Shelf.Slices.In.SortNone2
import Derived.Test.YtlamfnaoemingaaGreatDoorProg
import Derived.Below
import Derived.Deep.Draws
import Derived.Deep.AppendLies
import Derived.Maps.AppendAt
import Derived.OwnWalk
import Derived.Laws.BytesArg
import Derived.Laws.MakeOwn
import Derived.Laws.OwnMore
import Derived.Deep.OwnRows
import Derived.Tactics
import Derived.Lib.ConvBytes
import Derived.Laws.Slices
import Derived.WalkKit
import Derived.KernelRfl
import Derived.RowKit3
import Derived.Deep.LoopGhost
import Derived.Deep.QuietTactic
import Derived.BigQuiet
import Derived.WideLaws
import Derived.Deep.DeepCutAuto
import Derived.Deep.CutBlock
import Derived.Deep.RegionHeld3
import Derived.Laws.Rows
import Derived.Lib.AppendStr
import Derived.ArgAppend
import Derived.Laws.IdiomCopy
import Derived.RowKit
import Derived.OrdersHeld
import Derived.Laws.BitsLemmas
import Derived.WalkSpells
import Derived.WalkLawsBesides
import Derived.Laws.StructEq
import Derived.Test.YtlamfnaoemingaaGreatDoorGS0
import Derived.Test.YtlamfnaoemingaaGreatDoorGS1
import Derived.Test.YtlamfnaoemingaaGreatDoorGS2
import Derived.Test.YtlamfnaoemingaaGreatDoorGS3
import Derived.Test.YtlamfnaoemingaaGreatDoorGSc
namespace Go.Proofs.YtlamfnaoemingaaGreatDoorW.PrintLast
end Go.Proofs.YtlamfnaoemingaaGreatDoorW.PrintLast
namespace Go.Proofs.YtlamfnaoemingaaGreatDoorW.PrintMore
end Go.Proofs.YtlamfnaoemingaaGreatDoorW.PrintMore
namespace Go.Proofs.YtlamfnaoemingaaGreatDoorW.PrintWords
end Go.Proofs.YtlamfnaoemingaaGreatDoorW.PrintWords
section
namespace Go.Proofs.YtlamfnaoemingaaGreatDoor.C
open Go.RowKit Go.Proofs.YtlamfnaoemingaaGreatDoorW.PrintWords Go.Proofs.YtlamfnaoemingaaGreatDoorW.PrintLast Go.Proofs.YtlamfnaoemingaaGreatDoorW.PrintMore
attribute [local go_sem] zw zx xe xd zn zp zy zz
set_option linter.unusedVariables false
set_option linter.unusedSimpArgs false
def xc.f (a0 : ByteArray) : Option ByteArray := if a0.size ≤ 4294967280 then some (strOfNums ((bytesOf a0).map lowC)) else none
set_option maxHeartbeats 8000000 in
set_option maxRecDepth 100000 in
theorem xc.calls (a0 : ByteArray) (r : ByteArray) (w : World) (h : xc.f a0 = some r) :
  Calls Tryz.prog 145 #[.string a0] w fun e w' => e = .returned (.string r) ∧ Below w.heap.size w w' := by
 unfold xc.f at h
 split at h
 case isFalse => exact absurd h y7
 rename_i hn
 obtain rfl := Option.some.inj h
 clear h
 have hn63 := qd.mk (show a0.size ≤ 9223372036854775807 by omega)
 have hlen : (bytesOf a0).length = a0.size := bytesOf_length a0
 go_enter Tryz.func145, Tryz.ntmps145
 have hr := Lib.run_convert_string_bytes (P := Tryz.prog) w 9 97 5 a0 Tryz.underlying9 Tryz.underlying97 Tryz.underlying5
 go_wp2
 have hb1 := qd.mk (Lib.bytesWorld_at_new w 5 a0)
 have HB1 := qd.mk (bytes_below (Below.refl w.heap.size w) (Nat.le_refl _) 5 a0)
 have hcs := qd.mk (fun j (hj : j < a0.size) => (show (Lib.bytesCells w 5 a0)[j]? = some (.int .u8 ((bytesOf a0).getD j 0)) by
  have h2 := Lib.bytesWorld_cell w 5 a0 j hj
  rw [cell_of_row _ _ _ _ _ _ hb1.out] at h2
  rw [h2]
  have h3 : j < a0.data.toList.length := by rw [data_length]; exact hj
  simp [bytesOf, List.getD_eq_getElem?_getD, List.getElem?_eq_getElem h3]))
 have hmk : a0.size ≤ (Lib.bytesCells w 5 a0).size := by simp [Lib.bytesCells]
 generalize Lib.bytesCells w 5 a0 = cs0 at hb1 hcs hmk
 generalize Lib.bytesWorld w 5 a0 = W1 at hb1 HB1 ⊢
 generalize grownCap w a0.size 0 5 = cp at hr ⊢
 clear hr
 have GB := qd.mk (Nat.le_refl w.heap.size)
 generalize hg : w.heap.size = g at hb1 GB ⊢
 have GB := qd.mk (show w.heap.size ≤ g from Nat.le_of_eq hg)
 clear hg
 obtain ⟨mk, hmk0, hb1⟩ : ∃ mk : Nat × Nat, a0.size ≤ mk.1 ∧ qd (W1.heap[g]? = some (.cells cs0 5 mk)) := ⟨_, hmk, hb1⟩
 have HMK := qd.mk hmk0
 clear hmk hmk0
 go_loopg [10] a0.size (fun kq v9 w' => ∃ (i : Nat) (cs : Array Value), v9 = .int .i64 i ∧ qd (i + kq = a0.size) ∧ qd (w'.heap[g]? = some (.cells cs 5 mk)) ∧ qd (∀ j, j < a0.size → cs[j]? = some (.int .u8 ((lowTo (bytesOf a0) i).getD j 0))) ∧ qd (Below w.heap.size w w'))
 case atStart => exact ⟨0, cs0, rfl, ⟨by omega⟩, hb1, ⟨by rw [lowTo_zero]; exact hcs.out⟩, HB1⟩
 case round =>
  obtain ⟨i, cs, rfl, hi, hb, hc, HB⟩ := hrel
  clear hb1 hcs HB1
  cases gk with
  | zero =>
   obtain rfl : i = a0.size := by have := hi.out; omega
   have hlt : decide ((a0.size : Int) < (a0.size : Int)) = false := decide_eq_false yo
   have hcv := string_of_reads (P := Tryz.prog) (w := wr) (n := a0.size) (c := cp) (src := 97) (dst := 9) Tryz.underlying97 Tryz.underlying5 Tryz.underlying9 (by
    have h5 := low_row (l := lowTo (bytesOf a0) a0.size) hb.out (by rw [zr, hlen]; exact hn63.out) (by rw [zr, hlen]; exact hc.out)
    rw [zr, hlen] at h5
    exact h5)
   have hx : lowTo (bytesOf a0) a0.size = (bytesOf a0).map lowC := by rw [← hlen]; exact lowTo_all _
   rw [hx] at hcv
   clear hx hc
   go_wp2
   go_ret
   exact ⟨rfl, HB.out⟩
  | succ k1 =>
   have hlt0 : i < a0.size := by have := hi.out; omega
   have hlt : decide ((i : Int) < (a0.size : Int)) = true := decide_eq_true yo
   have p0 : (0 ≤ (i : Int)) = True := eq_true yo
   have p1 : ((i : Int) < (a0.size : Int)) = True := eq_true yo
   have hcz : wr.cell? ⟨g, i, none⟩ = some (.int .u8 ((bytesOf a0).getD i 0)) := by
    rw [cell_of_row wr g i cs _ mk hb.out, hc.out i hlt0, lowTo_at _ _ yo]
   have hfz : wr.frozen? ⟨g, i, none⟩ = false := by have h6 := hb.out; have h7 := HMK.out; simp [World.frozen?, h6]; omega
   obtain ⟨b, hbv⟩ : ∃ b, b = (bytesOf a0).getD i 0 := ⟨_, rfl⟩
   rw [← hbv] at hcz
   have HBV := qd.mk hbv
   clear hbv
   have nx : ∀ c : Int, ∀ j, j < a0.size → (cs.set! i (.int .u8 c))[j]? = some (.int .u8 (((lowTo (bytesOf a0) i).set i c).getD j 0)) := fun c j hj => by
    have hsz : i < cs.size := by
     have := hc.out i hlt0
     rcases Nat.lt_or_ge i cs.size with h | h
     ·exact h
     ·rw [Array.getElem?_eq_none h] at this; cases this
    rw [Array.set!_eq_setIfInBounds, Array.getElem?_setIfInBounds, List.getD_eq_getElem?_getD, List.getElem?_set]
    by_cases hij : i = j
    ·subst hij
     simp [hsz, zr, hlen, hlt0]
    ·simp only [hij, if_false]
     rw [hc.out j hj, List.getD_eq_getElem?_getD]
   have NX := qd.mk nx
   clear nx
   have wi := qd.mk (show wrap64 ((i : Int) + 1) = ((i + 1 : Nat) : Int) by unfold wrap64; omega)
   have HC : lowC b = b → qd (∀ j, j < a0.size → cs[j]? = some (.int .u8 ((lowTo (bytesOf a0) (i + 1)).getD j 0))) := fun h => ⟨fun j hj => by
    rw [lowTo_succ _ _ yo, ← HBV.out, h, hc.out j hj, List.getD_eq_getElem?_getD, List.getD_eq_getElem?_getD, List.getElem?_set]
    by_cases hij : i = j
    ·subst hij
     rw [if_pos rfl, if_pos (by rw [zr]; omega), HBV.out, ← lowTo_at _ _ yo, List.getD_eq_getElem?_getD, List.getElem?_eq_getElem (by rw [zr]; omega)]
     rfl
    ·rw [if_neg hij]⟩
   by_cases c1 : b ≥ 65
   ·have c1b : decide (b ≥ 65) = true := decide_eq_true c1
    by_cases c2 : b ≤ 90
    ·have c2b : decide (b ≤ 90) = true := decide_eq_true c2
     have LB : qd ((b + 97 - 65) % 256 = lowC b) := ⟨by unfold lowC; rw [if_pos ⟨c1, c2⟩]; omega⟩
     have hbk := hb
     clear c1 c2
     go_wp2
     go_roundg k1
     case measure => omega
     case rel => exact ⟨i + 1, _, by simp, ⟨by have := hi.out; omega⟩, ⟨blk_mark hb.out i _⟩, ⟨fun j hj => by rw [lowTo_succ _ _ yo, ← HBV.out, ← LB.out]; exact NX.out _ j hj⟩, ⟨qh HB.out GB.out⟩⟩
    ·have c2b : decide (b ≤ 90) = false := decide_eq_false c2
     have hl := HC uy
     clear c1 c2 HC
     go_wp2
     go_roundg k1
     case measure => omega
     case rel => exact ⟨i + 1, cs, by simp, ⟨by have := hi.out; omega⟩, hb, hl, HB⟩
   ·have c1b : decide (b ≥ 65) = false := decide_eq_false c1
    have hl := HC uy
    clear c1 HC
    go_wp2
    go_roundg k1
    case measure => omega
    case rel => exact ⟨i + 1, cs, by simp, ⟨by have := hi.out; omega⟩, hb, hl, HB⟩
def zb.f (a0 : ByteArray) (a1 : ByteArray) : Option (Bool) := (xc.f a0).bind fun t134 => ((xc.f a1).bind fun t135 => (some (t134.toList == t135.toList)))
set_option maxHeartbeats 8000000 in
set_option maxRecDepth 100000 in
theorem zb.calls (a0 : ByteArray) (a1 : ByteArray) (r : Bool) (w : World) (h : zb.f a0 a1 = some r) :
  Calls Tryz.prog 117 #[.string a0, .string a1] w fun e w' => e = .returned (.bool r) ∧ Below w.heap.size w w' := by
 have HB := qd.mk (Below.refl w.heap.size w)
 have H : ((xc.f a0).bind fun t134 => ((xc.f a1).bind fun t135 => (some (t134.toList == t135.toList)))) = some r := h
 clear h
 replace H := Option.bind_eq_some_iff.mp H
 obtain ⟨t134, A30, H⟩ := H
 replace H : ((xc.f a1).bind fun t135 => (some (t134.toList == t135.toList))) = some r := H
 have A3 := qd.mk A30
 clear A30
 replace H := Option.bind_eq_some_iff.mp H
 obtain ⟨t135, A40, H⟩ := H
 replace H : (some (t134.toList == t135.toList)) = some r := H
 have A4 := qd.mk A40
 clear A40
 obtain rfl := Option.some.inj H
 go_enter Tryz.func117, Tryz.ntmps117
 go_wp2_with (first | ((with_reducible refine qp (f := 145) rfl ?_); refine za (some 6) rfl rfl Tryz.func145 yg rfl #[.string a0] rfl cz ?_; (with_reducible refine (xc.calls a0 t134 _ A3.out).mono ?_); rintro e w5 ⟨rfl, hb⟩; refine ⟨_, rfl, ?_⟩; have n0_ := qd.mk (qf cu hb); clear HB; have HB := n0_; clear n0_; (try clear hb); (try clear hb2); (try clear hk); (try clear hi)) | ((with_reducible refine qp (f := 145) rfl ?_); refine za (some 8) rfl rfl Tryz.func145 yg rfl #[.string a1] rfl cz ?_; (with_reducible refine (xc.calls a1 t135 _ A4.out).mono ?_); rintro e w6 ⟨rfl, hb⟩; refine ⟨_, rfl, ?_⟩; have n0_ := qd.mk (qf cu hb); clear HB; have HB := n0_; clear n0_; (try clear hb); (try clear hb2); (try clear hk); (try clear hi)))
 go_ret
 exact ⟨by first | rfl | (simp [qi, qj] <;> rfl) | (simp [*, qi, qj] <;> rfl), by repeat (first | (with_reducible first | exact HB.out | apply qb | apply qa | apply qc) | exact HB.out)⟩
def qv.j0 : Nat → ByteArray → ByteArray → Bool → Option (Bool)
 | 0, _, _, _ => none
 | k + 1, x0, x1, x18 => if x18 = true then (some false) else ((strings_Cut.f x0 (⟨#[64]⟩ : ByteArray)).bind fun bt138 => ((strings_Cut.f x1 (⟨#[64]⟩ : ByteArray)).bind fun bt141 => (if bt138.1.toList = bt141.1.toList then ((zb.f bt138.2.1 bt141.2.1).bind fun t144 => (some t144)) else (some false))))
def qv.f (k : Nat) (a0 : ByteArray) (a1 : ByteArray) : Option (Bool) := (q7.f k a0).bind fun t136 => (if t136 = true then ((q7.f k a1).bind fun t137 => (qv.j0 k a0 a1 (!t137))) else (qv.j0 k a0 a1 true))
theorem qv.zv : ∀ k, (∀ y0 y1 y2, LeO (qv.j0 k y0 y1 y2) (qv.j0 (k + 1) y0 y1 y2))
 | 0 => fun _ _ _ r h => by simp [qv.j0] at h
 | k + 1 => by
  have ih0 := qv.zv k
  ·intro y0 y1 y2
   unfold qv.j0
   repeat' first
   | (with_reducible exact ih0 _ _ _)
   | (with_reducible exact q7.mono _ _)
   | (with_reducible exact LeO.refl _)
   | (with_reducible exact LeO.none _)
   | (with_reducible refine LeO.ite ?_ ?_)
   | (with_reducible refine LeO.bind ?_ (fun _ => ?_))
theorem qv.mono : ∀ a0 a1 k, LeO (qv.f k a0 a1) (qv.f (k + 1) a0 a1) := by
 intro a0 a1 k
 have ih0 := qv.zv k
 unfold qv.f
 repeat' first
   | (with_reducible exact ih0 _ _ _)
   | (with_reducible exact q7.mono _ _)
   | (with_reducible exact LeO.refl _)
   | (with_reducible exact LeO.none _)
   | (with_reducible refine LeO.ite ?_ ?_)
   | (with_reducible refine LeO.bind ?_ (fun _ => ?_))
set_option maxHeartbeats 8000000 in
set_option maxRecDepth 100000 in
theorem qv.calls (k : Nat) (a0 : ByteArray) (a1 : ByteArray) (r : Bool) (w : World) (hG : LibHeld w) (h : qv.f k a0 a1 = some r) :
  Calls Tryz.prog 76 #[.string a0, .string a1] w fun e w' => e = .returned (.bool r) ∧ Below w.heap.size w w' := by
 have HG := qd.mk hG
 clear hG
 have HB := qd.mk (Below.refl w.heap.size w)
 have H : ((q7.f k a0).bind fun t136 => (if t136 = true then ((q7.f k a1).bind fun t137 => (qv.j0 k a0 a1 (!t137))) else (qv.j0 k a0 a1 true))) = some r := h
 clear h
 have HC3 := qd.mk H
 clear H
 go_enter Tryz.func76, Tryz.ntmps76
 go_upto_region 1 with (fail)
 go_cut [18] (fun v18 wc => ∃ (kq : Nat) (x18_2 : Bool), v18 = .bool x18_2 ∧ qd (qv.j0 kq a0 a1 x18_2 = some r) ∧ qd (kq ≤ k) ∧ qd (Below w.heap.size w wc))
 case first =>
  have H := HC3.out
  clear HC3
  replace H := Option.bind_eq_some_iff.mp H
  obtain ⟨t136, A40, H⟩ := H
  replace H : (if t136 = true then ((q7.f k a1).bind fun t137 => (qv.j0 k a0 a1 (!t137))) else (qv.j0 k a0 a1 true)) = some r := H
  have A4 := qd.mk A40
  clear A40
  by_cases c5 : t136 = true
  ·subst c5
   have H1 : ((q7.f k a1).bind fun t137 => (qv.j0 k a0 a1 (!t137))) = some r := by rw [if_pos rfl] at H; exact H
   clear H
   have H := H1
   clear H1
   replace H := Option.bind_eq_some_iff.mp H
   obtain ⟨t137, A60, H⟩ := H
   replace H : (qv.j0 k a0 a1 (!t137)) = some r := H
   have A6 := qd.mk A60
   clear A60
   have H' := qd.mk H
   clear H
   go_wp2_with (first | ((with_reducible refine qp (f := 75) rfl ?_); refine za (some 12) rfl rfl Tryz.func75 yg rfl #[.string a0] rfl cz ?_; (with_reducible refine (q7.calls k a0 true _ ?side1 A4.out).mono ?_); (case side1 => exact LibHeld.below HG.out cu); rintro e w7 ⟨rfl, hb⟩; refine ⟨_, rfl, ?_⟩; have n0_ := qd.mk (qf cu hb); clear HB; have HB := n0_; clear n0_; (try clear hb); (try clear hb2); (try clear hk); (try clear hi)) | (go_at_call 75; (with_reducible refine (q7.calls k a1 t137 _ ?side1 A6.out).mono ?_); (case side1 => exact LibHeld.below HG.out cu); rintro e w8 ⟨rfl, hb⟩; have n0_ := qd.mk (qf cu hb); clear HB; have HB := n0_; clear n0_; (try clear hb); (try clear hb2); (try clear hk); (try clear hi)))
   go_meet
   case rel => exact ⟨_, (!t137), yf, H', ⟨by first | omega | exact Nat.le_refl _⟩, ⟨by repeat (first | (with_reducible first | exact HB.out | apply qb | apply qa | apply qc) | exact HB.out)⟩⟩
  ·replace c5 := Bool.eq_false_iff.mpr c5
   subst c5
   have H1 : (qv.j0 k a0 a1 true) = some r := by rw [if_neg (show ¬ (false = true) by decide)] at H; exact H
   clear H
   have H := H1
   clear H1
   have H' := qd.mk H
   clear H
   go_wp2_with (first | ((with_reducible refine qp (f := 75) rfl ?_); refine za (some 12) rfl rfl Tryz.func75 yg rfl #[.string a0] rfl cz ?_; (with_reducible refine (q7.calls k a0 false _ ?side1 A4.out).mono ?_); (case side1 => exact LibHeld.below HG.out cu); rintro e w9 ⟨rfl, hb⟩; refine ⟨_, rfl, ?_⟩; have n0_ := qd.mk (qf cu hb); clear HB; have HB := n0_; clear n0_; (try clear hb); (try clear hb2); (try clear hk); (try clear hi)))
   go_meet
   case rel => exact ⟨_, (true), yf, H', ⟨by first | omega | exact Nat.le_refl _⟩, ⟨by repeat (first | (with_reducible first | exact HB.out | apply qb | apply qa | apply qc) | exact HB.out)⟩⟩
 case rest =>
  clear HC3
  (try clear p2); (try clear c5); try clear c7
  obtain ⟨kq, x18_2, rfl, HA, HJ2, HB⟩ := hcut
  cases kq with
  | zero => exact absurd HA.out (by simp [qv.j0])
  | succ kj2 =>
   have H := HA.out
   clear HA
   simp only [qv.j0] at H
   by_cases c10 : x18_2 = true
   ·subst c10
    have H1 : (some false) = some r := by rw [if_pos rfl] at H; exact H
    clear H
    have H := H1
    clear H1
    obtain rfl := Option.some.inj H
    go_wp2
    go_ret
    exact ⟨by first | rfl | (simp [qi, qj] <;> rfl) | (simp [*, qi, qj] <;> rfl), by repeat (first | (with_reducible first | exact HB.out | apply qb | apply qa | apply qc) | exact HB.out)⟩
   ·replace c10 := Bool.eq_false_iff.mpr c10
    subst c10
    have H1 : ((strings_Cut.f a0 (⟨#[64]⟩ : ByteArray)).bind fun bt138 => ((strings_Cut.f a1 (⟨#[64]⟩ : ByteArray)).bind fun bt141 => (if bt138.1.toList = bt141.1.toList then ((zb.f bt138.2.1 bt141.2.1).bind fun t144 => (some t144)) else (some false)))) = some r := by rw [if_neg (show ¬ (false = true) by decide)] at H; exact H
    clear H
    have H := H1
    clear H1
    replace H := Option.bind_eq_some_iff.mp H
    obtain ⟨⟨t138, t139, t140⟩, A110, H⟩ := H
    replace H : ((strings_Cut.f a1 (⟨#[64]⟩ : ByteArray)).bind fun bt141 => (if t138.toList = bt141.1.toList then ((zb.f t139 bt141.2.1).bind fun t144 => (some t144)) else (some false))) = some r := H
    have A11 := qd.mk A110
    clear A110
    replace H := Option.bind_eq_some_iff.mp H
    obtain ⟨⟨t141, t142, t143⟩, A120, H⟩ := H
    replace H : (if t138.toList = t141.toList then ((zb.f t139 t142).bind fun t144 => (some t144)) else (some false)) = some r := H
    have A12 := qd.mk A120
    clear A120
    by_cases c13 : t138.toList = t141.toList
    ·rw [if_pos c13] at H
     have c13b0 : (t138.toList == t141.toList) = true := beq_iff_eq.mpr c13
     have c13b1 : (t138.toList != t141.toList) = false := bne_eq_false_iff_eq.mpr c13
     clear c13
     replace H := Option.bind_eq_some_iff.mp H
     obtain ⟨t144, A140, H⟩ := H
     replace H : (some t144) = some r := H
     have A14 := qd.mk A140
     clear A140
     obtain rfl := Option.some.inj H
     go_wp2_with (first | ((with_reducible refine qp (f := 114) rfl ?_); refine za (some 21) rfl rfl Tryz.func114 yg rfl #[.string a0, .string (⟨#[64]⟩ : ByteArray)] rfl cz ?_; (with_reducible refine (strings_Cut.calls a0 (⟨#[64]⟩ : ByteArray) t138 t139 t140 _ ?side1 A11.out).mono ?_); (case side1 => exact LibHeld.below HG.out cu); rintro e w15 ⟨rfl, hb⟩; refine ⟨_, rfl, ?_⟩; have n0_ := qd.mk (qf cu hb); clear HB; have HB := n0_; clear n0_; (try clear hb); (try clear hb2); (try clear hk); (try clear hi)) | ((with_reducible refine qp (f := 114) rfl ?_); refine za (some 27) rfl rfl Tryz.func114 yg rfl #[.string a1, .string (⟨#[64]⟩ : ByteArray)] rfl cz ?_; (with_reducible refine (strings_Cut.calls a1 (⟨#[64]⟩ : ByteArray) t141 t142 t143 _ ?side1 A12.out).mono ?_); (case side1 => exact LibHeld.below HG.out cu); rintro e w16 ⟨rfl, hb⟩; refine ⟨_, rfl, ?_⟩; have n0_ := qd.mk (qf cu hb); clear HB; have HB := n0_; clear n0_; (try clear hb); (try clear hb2); (try clear hk); (try clear hi)) | (go_at_call 117; (with_reducible refine (zb.calls t139 t142 t144 _ A14.out).mono ?_); rintro e w17 ⟨rfl, hb⟩; have n0_ := qd.mk (qf cu hb); clear HB; have HB := n0_; clear n0_; (try clear hb); (try clear hb2); (try clear hk); (try clear hi)))
     go_ret
     exact ⟨by first | rfl | (simp [qi, qj] <;> rfl) | (simp [*, qi, qj] <;> rfl), by repeat (first | (with_reducible first | exact HB.out | apply qb | apply qa | apply qc) | exact HB.out)⟩
    ·rw [if_neg c13] at H
     have c13b0 : (t138.toList == t141.toList) = false := beq_eq_false_iff_ne.mpr c13
     have c13b1 : (t138.toList != t141.toList) = true := bne_iff_ne.mpr c13
     obtain rfl := Option.some.inj H
     go_wp2_with (first | ((with_reducible refine qp (f := 114) rfl ?_); refine za (some 21) rfl rfl Tryz.func114 yg rfl #[.string a0, .string (⟨#[64]⟩ : ByteArray)] rfl cz ?_; (with_reducible refine (strings_Cut.calls a0 (⟨#[64]⟩ : ByteArray) t138 t139 t140 _ ?side1 A11.out).mono ?_); (case side1 => exact LibHeld.below HG.out cu); rintro e w18 ⟨rfl, hb⟩; refine ⟨_, rfl, ?_⟩; have n0_ := qd.mk (qf cu hb); clear HB; have HB := n0_; clear n0_; (try clear hb); (try clear hb2); (try clear hk); (try clear hi)) | ((with_reducible refine qp (f := 114) rfl ?_); refine za (some 27) rfl rfl Tryz.func114 yg rfl #[.string a1, .string (⟨#[64]⟩ : ByteArray)] rfl cz ?_; (with_reducible refine (strings_Cut.calls a1 (⟨#[64]⟩ : ByteArray) t141 t142 t143 _ ?side1 A12.out).mono ?_); (case side1 => exact LibHeld.below HG.out cu); rintro e w19 ⟨rfl, hb⟩; refine ⟨_, rfl, ?_⟩; have n0_ := qd.mk (qf cu hb); clear HB; have HB := n0_; clear n0_; (try clear hb); (try clear hb2); (try clear hk); (try clear hi)))
     go_ret
     exact ⟨by first | rfl | (simp [qi, qj] <;> rfl) | (simp [*, qi, qj] <;> rfl), by repeat (first | (with_reducible first | exact HB.out | apply qb | apply qa | apply qc) | exact HB.out)⟩
end Go.Proofs.YtlamfnaoemingaaGreatDoor.C
end
section
namespace Go.Proofs.YtlamfnaoemingaaGreatDoor.C
open Go.RowKit Go.Proofs.YtlamfnaoemingaaGreatDoorW.PrintWords Go.Proofs.YtlamfnaoemingaaGreatDoorW.PrintLast Go.Proofs.YtlamfnaoemingaaGreatDoorW.PrintMore
attribute [local go_sem] zw zx xe xd zn zp zy zz
set_option linter.unusedVariables false
set_option linter.unusedSimpArgs false
def zu.f (a0 : ByteArray) : Option ByteArray := if a0.size ≤ 4294967280 then some (strOfNums ((bytesOf a0).map lowC)) else none
set_option maxHeartbeats 8000000 in
set_option maxRecDepth 100000 in
theorem zu.calls (a0 : ByteArray) (r : ByteArray) (w : World) (h : zu.f a0 = some r) :
  Calls Tryz.prog 77 #[.string a0] w fun e w' => e = .returned (.string r) ∧ Below w.heap.size w w' := by
 unfold zu.f at h
 split at h
 case isFalse => exact absurd h y7
 rename_i hn
 obtain rfl := Option.some.inj h
 clear h
 have hn63 := qd.mk (show a0.size ≤ 9223372036854775807 by omega)
 have hlen : (bytesOf a0).length = a0.size := bytesOf_length a0
 go_enter Tryz.func77, Tryz.ntmps77
 have hr := Lib.run_convert_string_bytes (P := Tryz.prog) w 9 97 5 a0 Tryz.underlying9 Tryz.underlying97 Tryz.underlying5
 go_wp2
 have hb1 := qd.mk (Lib.bytesWorld_at_new w 5 a0)
 have HB1 := qd.mk (bytes_below (Below.refl w.heap.size w) (Nat.le_refl _) 5 a0)
 have hcs := qd.mk (fun j (hj : j < a0.size) => (show (Lib.bytesCells w 5 a0)[j]? = some (.int .u8 ((bytesOf a0).getD j 0)) by
  have h2 := Lib.bytesWorld_cell w 5 a0 j hj
  rw [cell_of_row _ _ _ _ _ _ hb1.out] at h2
  rw [h2]
  have h3 : j < a0.data.toList.length := by rw [data_length]; exact hj
  simp [bytesOf, List.getD_eq_getElem?_getD, List.getElem?_eq_getElem h3]))
 have hmk : a0.size ≤ (Lib.bytesCells w 5 a0).size := by simp [Lib.bytesCells]
 generalize Lib.bytesCells w 5 a0 = cs0 at hb1 hcs hmk
 generalize Lib.bytesWorld w 5 a0 = W1 at hb1 HB1 ⊢
 generalize grownCap w a0.size 0 5 = cp at hr ⊢
 clear hr
 have GB := qd.mk (Nat.le_refl w.heap.size)
 generalize hg : w.heap.size = g at hb1 GB ⊢
 have GB := qd.mk (show w.heap.size ≤ g from Nat.le_of_eq hg)
 clear hg
 obtain ⟨mk, hmk0, hb1⟩ : ∃ mk : Nat × Nat, a0.size ≤ mk.1 ∧ qd (W1.heap[g]? = some (.cells cs0 5 mk)) := ⟨_, hmk, hb1⟩
 have HMK := qd.mk hmk0
 clear hmk hmk0
 go_loopg [10] a0.size (fun kq v9 w' => ∃ (i : Nat) (cs : Array Value), v9 = .int .i64 i ∧ qd (i + kq = a0.size) ∧ qd (w'.heap[g]? = some (.cells cs 5 mk)) ∧ qd (∀ j, j < a0.size → cs[j]? = some (.int .u8 ((lowTo (bytesOf a0) i).getD j 0))) ∧ qd (Below w.heap.size w w'))
 case atStart => exact ⟨0, cs0, rfl, ⟨by omega⟩, hb1, ⟨by rw [lowTo_zero]; exact hcs.out⟩, HB1⟩
 case round =>
  obtain ⟨i, cs, rfl, hi, hb, hc, HB⟩ := hrel
  clear hb1 hcs HB1
  cases gk with
  | zero =>
   obtain rfl : i = a0.size := by have := hi.out; omega
   have hlt : decide ((a0.size : Int) < (a0.size : Int)) = false := decide_eq_false yo
   have hcv := string_of_reads (P := Tryz.prog) (w := wr) (n := a0.size) (c := cp) (src := 97) (dst := 9) Tryz.underlying97 Tryz.underlying5 Tryz.underlying9 (by
    have h5 := low_row (l := lowTo (bytesOf a0) a0.size) hb.out (by rw [zr, hlen]; exact hn63.out) (by rw [zr, hlen]; exact hc.out)
    rw [zr, hlen] at h5
    exact h5)
   have hx : lowTo (bytesOf a0) a0.size = (bytesOf a0).map lowC := by rw [← hlen]; exact lowTo_all _
   rw [hx] at hcv
   clear hx hc
   go_wp2
   go_ret
   exact ⟨rfl, HB.out⟩
  | succ k1 =>
   have hlt0 : i < a0.size := by have := hi.out; omega
   have hlt : decide ((i : Int) < (a0.size : Int)) = true := decide_eq_true yo
   have p0 : (0 ≤ (i : Int)) = True := eq_true yo
   have p1 : ((i : Int) < (a0.size : Int)) = True := eq_true yo
   have hcz : wr.cell? ⟨g, i, none⟩ = some (.int .u8 ((bytesOf a0).getD i 0)) := by
    rw [cell_of_row wr g i cs _ mk hb.out, hc.out i hlt0, lowTo_at _ _ yo]
   have hfz : wr.frozen? ⟨g, i, none⟩ = false := by have h6 := hb.out; have h7 := HMK.out; simp [World.frozen?, h6]; omega
   obtain ⟨b, hbv⟩ : ∃ b, b = (bytesOf a0).getD i 0 := ⟨_, rfl⟩
   rw [← hbv] at hcz
   have HBV := qd.mk hbv
   clear hbv
   have nx : ∀ c : Int, ∀ j, j < a0.size → (cs.set! i (.int .u8 c))[j]? = some (.int .u8 (((lowTo (bytesOf a0) i).set i c).getD j 0)) := fun c j hj => by
    have hsz : i < cs.size := by
     have := hc.out i hlt0
     rcases Nat.lt_or_ge i cs.size with h | h
     ·exact h
     ·rw [Array.getElem?_eq_none h] at this; cases this
    rw [Array.set!_eq_setIfInBounds, Array.getElem?_setIfInBounds, List.getD_eq_getElem?_getD, List.getElem?_set]
    by_cases hij : i = j
    ·subst hij
     simp [hsz, zr, hlen, hlt0]
    ·simp only [hij, if_false]
     rw [hc.out j hj, List.getD_eq_getElem?_getD]
   have NX := qd.mk nx
   clear nx
   have wi := qd.mk (show wrap64 ((i : Int) + 1) = ((i + 1 : Nat) : Int) by unfold wrap64; omega)
   have HC : lowC b = b → qd (∀ j, j < a0.size → cs[j]? = some (.int .u8 ((lowTo (bytesOf a0) (i + 1)).getD j 0))) := fun h => ⟨fun j hj => by
    rw [lowTo_succ _ _ yo, ← HBV.out, h, hc.out j hj, List.getD_eq_getElem?_getD, List.getD_eq_getElem?_getD, List.getElem?_set]
    by_cases hij : i = j
    ·subst hij
     rw [if_pos rfl, if_pos (by rw [zr]; omega), HBV.out, ← lowTo_at _ _ yo, List.getD_eq_getElem?_getD, List.getElem?_eq_getElem (by rw [zr]; omega)]
     rfl
    ·rw [if_neg hij]⟩
   by_cases c1 : b ≥ 65
   ·have c1b : decide (b ≥ 65) = true := decide_eq_true c1
    by_cases c2 : b ≤ 90
    ·have c2b : decide (b ≤ 90) = true := decide_eq_true c2
     have LB : qd ((b + 97 - 65) % 256 = lowC b) := ⟨by unfold lowC; rw [if_pos ⟨c1, c2⟩]; omega⟩
     have hbk := hb
     clear c1 c2
     go_wp2
     go_roundg k1
     case measure => omega
     case rel => exact ⟨i + 1, _, by simp, ⟨by have := hi.out; omega⟩, ⟨blk_mark hb.out i _⟩, ⟨fun j hj => by rw [lowTo_succ _ _ yo, ← HBV.out, ← LB.out]; exact NX.out _ j hj⟩, ⟨qh HB.out GB.out⟩⟩
    ·have c2b : decide (b ≤ 90) = false := decide_eq_false c2
     have hl := HC uy
     clear c1 c2 HC
     go_wp2
     go_roundg k1
     case measure => omega
     case rel => exact ⟨i + 1, cs, by simp, ⟨by have := hi.out; omega⟩, hb, hl, HB⟩
   ·have c1b : decide (b ≥ 65) = false := decide_eq_false c1
    have hl := HC uy
    clear c1 HC
    go_wp2
    go_roundg k1
    case measure => omega
    case rel => exact ⟨i + 1, cs, by simp, ⟨by have := hi.out; omega⟩, hb, hl, HB⟩
end Go.Proofs.YtlamfnaoemingaaGreatDoor.C
end
section
namespace Go.Proofs.YtlamfnaoemingaaGreatDoor.C
open Go.RowKit Go.Proofs.YtlamfnaoemingaaGreatDoorW.PrintWords Go.Proofs.YtlamfnaoemingaaGreatDoorW.PrintLast Go.Proofs.YtlamfnaoemingaaGreatDoorW.PrintMore
attribute [local go_sem] zw zx xe xd zn zp zy zz
set_option linter.unusedVariables false
set_option linter.unusedSimpArgs false
mutual
def q4.l0 : Nat → List Int → Bool → List Int → Int → Int → Option (ByteArray)
 | 0, _, _, _, _, _ => none
 | k + 1, x3, x4, x8, x9, x10 => if x10 < x9 then (if 0 ≤ x10 then (if x10 < (x8.length : Int) then (if (rd x8 x10) = 32 then (q4.l0 k x3 (decide ((x3.length : Int) > 0)) x8 x9 (wrap64 (x10 + 1))) else (if x4 = true then (if x3.length < 140737488355328 then (q4.j1 k (x3 ++ [32]) false (rd x8 x10) x8 x9 x10) else (none)) else (q4.j1 k x3 x4 (rd x8 x10) x8 x9 x10))) else (none)) else (none)) else (some (strOfNums x3))
def q4.j1 : Nat → List Int → Bool → Int → List Int → Int → Int → Option (ByteArray)
 | 0, _, _, _, _, _, _ => none
 | k + 1, x3, x4, x6, x8, x9, x10 => if x6 ≥ 65 then (if x6 ≤ 90 then (if x3.length < 140737488355328 then (q4.l0 k (x3 ++ [(x6 + 32) % 256]) x4 x8 x9 (wrap64 (x10 + 1))) else (none)) else (if x3.length < 140737488355328 then (q4.l0 k (x3 ++ [x6]) x4 x8 x9 (wrap64 (x10 + 1))) else (none))) else (if x3.length < 140737488355328 then (q4.l0 k (x3 ++ [x6]) x4 x8 x9 (wrap64 (x10 + 1))) else (none))
end
def q4.f (k : Nat) (a0 : ByteArray) : Option (ByteArray) := if a0.size ≤ 9223372036854775807 then ((some (bytesOf a0 : List Int)).bind fun y145 => (q4.l0 k ([] : List Int) false y145 (y145.length : Int) 0)) else (none)
theorem q4.zv : ∀ k, (∀ y0 y1 y2 y3 y4, LeO (q4.l0 k y0 y1 y2 y3 y4) (q4.l0 (k + 1) y0 y1 y2 y3 y4)) ∧ (∀ y0 y1 y2 y3 y4 y5, LeO (q4.j1 k y0 y1 y2 y3 y4 y5) (q4.j1 (k + 1) y0 y1 y2 y3 y4 y5))
 | 0 => ⟨fun _ _ _ _ _ r h => by simp [q4.l0] at h, fun _ _ _ _ _ _ r h => by simp [q4.j1] at h⟩
 | k + 1 => by
  obtain ⟨ih0, ih1⟩ := q4.zv k
  refine ⟨?_, ?_⟩
  ·intro y0 y1 y2 y3 y4
   unfold q4.l0
   repeat' first
   | (with_reducible exact ih0 _ _ _ _ _)
   | (with_reducible exact ih1 _ _ _ _ _ _)
   | (with_reducible exact LeO.refl _)
   | (with_reducible exact LeO.none _)
   | (with_reducible refine LeO.ite ?_ ?_)
   | (with_reducible refine LeO.bind ?_ (fun _ => ?_))
  ·intro y0 y1 y2 y3 y4 y5
   unfold q4.j1
   repeat' first
   | (with_reducible exact ih0 _ _ _ _ _)
   | (with_reducible exact ih1 _ _ _ _ _ _)
   | (with_reducible exact LeO.refl _)
   | (with_reducible exact LeO.none _)
   | (with_reducible refine LeO.ite ?_ ?_)
   | (with_reducible refine LeO.bind ?_ (fun _ => ?_))
theorem q4.mono : ∀ a0 k, LeO (q4.f k a0) (q4.f (k + 1) a0) := by
 intro a0 k
 obtain ⟨ih0, ih1⟩ := q4.zv k
 unfold q4.f
 repeat' first
   | (with_reducible exact ih0 _ _ _ _ _)
   | (with_reducible exact ih1 _ _ _ _ _ _)
   | (with_reducible exact LeO.refl _)
   | (with_reducible exact LeO.none _)
   | (with_reducible refine LeO.ite ?_ ?_)
   | (with_reducible refine LeO.bind ?_ (fun _ => ?_))
set_option maxHeartbeats 8000000 in
set_option maxRecDepth 100000 in
theorem q4.calls (k : Nat) (a0 : ByteArray) (r : ByteArray) (w : World) (h : q4.f k a0 = some r) :
  Calls Tryz.prog 185 #[.string a0] w fun e w' => e = .returned (.string r) ∧ Below w.heap.size w w' := by
 have HB := qd.mk (Below.refl w.heap.size w)
 have H : (if a0.size ≤ 9223372036854775807 then ((some (bytesOf a0 : List Int)).bind fun y145 => (q4.l0 k ([] : List Int) false y145 (y145.length : Int) 0)) else (none)) = some r := h
 clear h
 by_cases c2 : a0.size ≤ 9223372036854775807
 ·rw [if_pos c2] at H
  have c2b0 := eq_true c2
  have c2b1 : decide (a0.size ≤ 9223372036854775807) = true := decide_eq_true c2
  try have c2b2 : (9223372036854775807 < a0.size) = False := eq_false (Nat.not_lt.2 c2)
  clear c2
  obtain ⟨y145, hy145⟩ : ∃ y_ : List Int, y_ = (bytesOf a0) := ⟨_, rfl⟩
  replace H : (q4.l0 k ([] : List Int) false y145 (y145.length : Int) 0) = some r := by first | (rw [hy145]; with_reducible exact H) | (have H2_ := (Option.bind_some _ _).symm.trans H; rw [hy145]; with_reducible exact H2_) | (have H2_ := (Option.bind_some _ _).symm.trans H; with_reducible exact H2_) | with_reducible exact H | (rw [hy145]; exact H) | exact H
  have Ny145 := qd.mk hy145
  clear hy145
  have H' := qd.mk H
  clear H
  go_enter Tryz.func185, Tryz.ntmps185
  go_wp2_with (first | ((with_reducible refine q8 (N := 8) rfl ?_); refine Kd.V_conv _ 5 rfl (N := 8) rfl 9 97 _ rfl a0 rfl Tryz.underlying9 Tryz.underlying97 Tryz.underlying5 (ok := fun k_ => w.heap.size ≤ k_) (Nat.le_refl _) (of_decide_eq_true yc) (Below.refl _ _) (Nat.le_refl _) ?_; intro v146 w3 ho4 hb hg_ hnew_; clear hg_ hnew_; (first | rw [← Ny145.out] at ho4 | (simp only [Int.reduceToNat] at ho4; rw [← Ny145.out] at ho4)); have n0_ := qd.mk (Kd.V_lower (Kd.V_mono (ok' := fun k_ => True) ho4 (fun k_ hk_ => trivial)) (qo cu)); have n1_ := qd.mk (qf cu hb); clear HB; have HO147 := n0_; have HB := n1_; clear n0_ n1_; clear hb ho4; obtain ⟨Ao5, co5, eo5⟩ := Kd.V_slice HO147.out; subst eo5))
  go_loopg [3, 4, 10] k (fun kq v3 v4 v10 w' => ∃ (x3_1 : List Int) (x4_1 : Bool) (x10_1 : Int), v4 = .bool x4_1 ∧ v10 = .int .i64 x10_1 ∧ qd (q4.l0 kq x3_1 x4_1 y145 (y145.length : Int) x10_1 = some r) ∧ qd (kq ≤ k) ∧ qd (Kd.R (Kd.int .u8) 5 w' w.heap.size (fun _ => True) v3 x3_1) ∧ qd (Kd.V (Kd.int .u8) 5 w' w.heap.size (fun k_ => some k_ ≠ (v3 : Value).ownBlock) (.slice Ao5 y145.length co5) y145) ∧ qd (Below w.heap.size w w'))
  case atStart => exact ⟨(([] : List Int)), (false), (0), yf, yf, H', ⟨Nat.le_refl _⟩, ⟨by first | exact Kd.R_nil _ _ _ _ _ | exact Kd.N_nil _ _ _ _ _ | exact Kd.V_nil _ _ _ _ _ | exact Kd.Q_nil _ _ _ _ _ | exact Kd.S_nil _ _ _ _ _⟩, ⟨by (with_reducible repeat (first | apply Kd.xp | apply Kd.xq | apply Kd.xz)); exact Kd.V_mono HO147.out (fun _ hk => (by simp [Value.ownBlock]))⟩, ⟨by repeat (first | (with_reducible first | exact HB.out | apply qb | apply qa | apply qc) | exact HB.out)⟩⟩
  case round =>
   clear H'
   (try clear c1); (try clear c2); (try clear c2b0); (try clear c2b1); (try clear c2b2); try clear p2
   obtain ⟨x3_1, x4_1, x10_1, rfl, rfl, HA, HK1, HO_3, HO_8, HB⟩ := hrel
   cases gk with
   | zero => exact absurd HA.out (by simp [q4.l0])
   | succ k1 =>
    have H := HA.out
    clear HA
    simp only [q4.l0] at H
    by_cases c6 : x10_1 < (y145.length : Int)
    ·rw [if_pos c6] at H
     have c6b0 : decide (x10_1 < (y145.length : Int)) = true := decide_eq_true c6
     clear c6
     by_cases c7 : 0 ≤ x10_1
     ·rw [if_pos c7] at H
      have c7b0 : decide (0 ≤ x10_1) = true := decide_eq_true c7
      clear c7
      by_cases c8 : x10_1 < (y145.length : Int)
      ·rw [if_pos c8] at H
       have c8b0 : decide (x10_1 < (y145.length : Int)) = true := decide_eq_true c8
       clear c8
       by_cases c9 : (rd y145 x10_1) = 32
       ·rw [if_pos c9] at H
        have c9b0 : ((rd y145 x10_1) == 32) = true := beq_iff_eq.mpr c9
        have c9b1 : ((rd y145 x10_1) != 32) = false := bne_eq_false_iff_eq.mpr c9
        clear c9
        have H' := qd.mk H
        clear H
        have p148 : 0 ≤ (x10_1 : Int) := of_decide_eq_true yc
        have q148 : x10_1 < (y145.length : Int) := of_decide_eq_true yc
        obtain ⟨ad148, e148, hx148_0⟩ := Kd.at_int (Kd.V_reads' HO_8.out).2.2 x10_1 p148 q148
        cases e148
        replace p148 := eq_true p148
        replace q148 := eq_true q148
        obtain ⟨Ao10, co10, eo10⟩ := Kd.R_slice HO_3.out
        subst eo10
        go_wp2
        go_roundg k1
        case measure => have := HK1.out; omega
        case rel => exact ⟨(x3_1), (decide ((x3_1.length : Int) > 0)), (wrap64 (x10_1 + 1)), yf, yf, H', ⟨by have := HK1.out; omega⟩, ⟨by (with_reducible repeat (first | apply Kd.zq | apply Kd.zl | apply Kd.zt)); exact HO_3.out⟩, ⟨by (with_reducible repeat (first | apply Kd.xp | apply Kd.xq | apply Kd.xz)); exact HO_8.out⟩, ⟨by repeat (first | (with_reducible first | exact HB.out | apply qb | apply qa | apply qc) | exact HB.out)⟩⟩
       ·rw [if_neg c9] at H
        have c9b0 : ((rd y145 x10_1) == 32) = false := beq_eq_false_iff_ne.mpr c9
        have c9b1 : ((rd y145 x10_1) != 32) = true := bne_iff_ne.mpr c9
        have HC11 := qd.mk H
        clear H
        have p148 : 0 ≤ (x10_1 : Int) := of_decide_eq_true yc
        have q148 : x10_1 < (y145.length : Int) := of_decide_eq_true yc
        obtain ⟨ad148, e148, hx148_0⟩ := Kd.at_int (Kd.V_reads' HO_8.out).2.2 x10_1 p148 q148
        cases e148
        replace p148 := eq_true p148
        replace q148 := eq_true q148
        go_upto_if 19 with (fail)
        go_cut [3, 4] (fun v3 v4 wc => ∃ (kq : Nat) (x3_10 : List Int) (x4_10 : Bool), v4 = .bool x4_10 ∧ qd (q4.j1 kq x3_10 x4_10 (rd y145 x10_1) y145 (y145.length : Int) x10_1 = some r) ∧ qd (kq ≤ k1) ∧ qd (Kd.R (Kd.int .u8) 5 wc w.heap.size (fun _ => True) v3 x3_10) ∧ qd (Kd.V (Kd.int .u8) 5 wc w.heap.size (fun k_ => some k_ ≠ (v3 : Value).ownBlock) (.slice (some ad148) y145.length co5) y145) ∧ qd (Below w.heap.size w wc))
        case first =>
         have H := HC11.out
         clear HC11
         by_cases c12 : x4_1 = true
         ·subst c12
          have H1 : (if x3_1.length < 140737488355328 then (q4.j1 k1 (x3_1 ++ [32]) false (rd y145 x10_1) y145 (y145.length : Int) x10_1) else (none)) = some r := by rw [if_pos rfl] at H; exact H
          clear H
          have H := H1
          clear H1
          by_cases c13 : x3_1.length < 140737488355328
          ·rw [if_pos c13] at H
           have LMc13 := qd.mk c13
           clear c13
           obtain ⟨y149, hy149⟩ : ∃ y_ : List Int, y_ = (x3_1 ++ [32]) := ⟨_, rfl⟩
           replace H : (q4.j1 k1 y149 false (rd y145 x10_1) y145 (y145.length : Int) x10_1) = some r := by first | (rw [hy149]; with_reducible exact H) | (have H2_ := (Option.bind_some _ _).symm.trans H; rw [hy149]; with_reducible exact H2_) | (have H2_ := (Option.bind_some _ _).symm.trans H; with_reducible exact H2_) | with_reducible exact H | (rw [hy149]; exact H) | exact H
           have Ny149 := qd.mk hy149
           clear hy149
           have H' := qd.mk H
           clear H
           go_wp2_with (first | ((with_reducible refine xy (b := .append) (xs := #[.tmp 20, .tmp 21]) rfl ?_); at_builtin; refine Kd.R_append (Kd.int .u8) (w0 := w) w.heap.size rfl (.tmp 20) (.tmp 21) 97 5 (.int .u8 0) 1 rfl Tryz.underlying97 info5 rfl (by decide) yo u3 x3_1 32 [.int .u8 32] (fun _ => True) (fun _ => False) rfl rfl ?aP (fun _ hk => hk.elim) ?aF ?aO ?aB ?aS ?aL ?_; (case aP => exact rfl); (case aB => exact cu); (case aF => exact (fun _ _ => trivial)); (case aO => exact uk); (case aS => exact (qo cu)); (case aL => have := LMc13.out; omega); intro v150 w14 ho hb hg hat; rw [← Ny149.out] at ho; have n0_ := qd.mk (Kd.V_afterv (ok := (fun _ => True)) (by (with_reducible repeat (first | apply Kd.xp | apply Kd.xq | apply Kd.xz)); exact Kd.V_mono HO_8.out (fun _ hk => ⟨trivial, hk⟩)) hg hat); have n1_ := qd.mk (hb); have n2_ := qd.mk (ho); clear HO_8; clear HB; clear HO_3; have HO_8 := n0_; have HB := n1_; have HO151 := n2_; clear n0_ n1_ n2_; clear ho hb hg hat))
           go_meet
           case rel => exact ⟨_, (y149), (false), yf, H', ⟨by have := HK1.out; first | omega | exact Nat.le_refl _⟩, ⟨by (with_reducible repeat (first | apply Kd.zq | apply Kd.zl | apply Kd.zt)); exact HO151.out⟩, ⟨by (with_reducible repeat (first | apply Kd.xp | apply Kd.xq | apply Kd.xz)); exact Kd.V_mono HO_8.out (fun _ hk => hk.2)⟩, ⟨by repeat (first | (with_reducible first | exact HB.out | apply qb | apply qa | apply qc) | exact HB.out)⟩⟩
          ·rw [if_neg c13] at H
           exact absurd H y7
         ·replace c12 := Bool.eq_false_iff.mpr c12
          subst c12
          have H1 : (q4.j1 k1 x3_1 false (rd y145 x10_1) y145 (y145.length : Int) x10_1) = some r := by rw [if_neg (show ¬ (false = true) by decide)] at H; exact H
          clear H
          have H := H1
          clear H1
          have H' := qd.mk H
          clear H
          go_wp2
          go_meet
          case rel => exact ⟨_, (x3_1), (false), yf, H', ⟨by have := HK1.out; first | omega | exact Nat.le_refl _⟩, ⟨by (with_reducible repeat (first | apply Kd.zq | apply Kd.zl | apply Kd.zt)); exact HO_3.out⟩, ⟨by (with_reducible repeat (first | apply Kd.xp | apply Kd.xq | apply Kd.xz)); exact HO_8.out⟩, ⟨by repeat (first | (with_reducible first | exact HB.out | apply qb | apply qa | apply qc) | exact HB.out)⟩⟩
        case rest =>
         clear HC11
         (try clear c1); (try clear p1); (try clear q1); (try clear hx1); (try clear c2); (try clear c2b0); (try clear c2b1); (try clear c2b2); (try clear p2); (try clear c6); (try clear c6b0); try clear p6
         (try clear c7); (try clear c7b0); (try clear c8); (try clear c8b0); (try clear c9); (try clear c9b0); (try clear c9b1); (try clear c12); (try clear c13); (try clear p14); try clear q14
         (try clear hx14); (try clear hx148_0); (try clear p148); (try clear p2); try clear q148
         obtain ⟨kq, x3_10, x4_10, rfl, HA, HJ10, HO_3, HO_8, HB⟩ := hcut
         cases kq with
         | zero => exact absurd HA.out (by simp [q4.j1])
         | succ kj10 =>
          have H := HA.out
          clear HA
          simp only [q4.j1] at H
          by_cases c15 : (rd y145 x10_1) ≥ 65
          ·rw [if_pos c15] at H
           have c15b0 : decide (65 ≤ (rd y145 x10_1)) = true := decide_eq_true c15
           clear c15
           by_cases c16 : (rd y145 x10_1) ≤ 90
           ·rw [if_pos c16] at H
            have c16b0 : decide ((rd y145 x10_1) ≤ 90) = true := decide_eq_true c16
            clear c16
            by_cases c17 : x3_10.length < 140737488355328
            ·rw [if_pos c17] at H
             have LMc17 := qd.mk c17
             clear c17
             obtain ⟨y152, hy152⟩ : ∃ y_ : List Int, y_ = (x3_10 ++ [((rd y145 x10_1) + 32) % 256]) := ⟨_, rfl⟩
             replace H : (q4.l0 kj10 y152 x4_10 y145 (y145.length : Int) (wrap64 (x10_1 + 1))) = some r := by first | (rw [hy152]; with_reducible exact H) | (have H2_ := (Option.bind_some _ _).symm.trans H; rw [hy152]; with_reducible exact H2_) | (have H2_ := (Option.bind_some _ _).symm.trans H; with_reducible exact H2_) | with_reducible exact H | (rw [hy152]; exact H) | exact H
             have Ny152 := qd.mk hy152
             clear hy152
             have H' := qd.mk H
             clear H
             go_wp2_with (first | ((with_reducible refine xy (b := .append) (xs := #[.tmp 31, .tmp 33]) rfl ?_); at_builtin; refine Kd.R_append (Kd.int .u8) (w0 := w) w.heap.size rfl (.tmp 31) (.tmp 33) 97 5 (.int .u8 0) 1 rfl Tryz.underlying97 info5 rfl (by decide) yo u3 x3_10 (((rd y145 x10_1) + 32) % 256) [.int .u8 (((rd y145 x10_1) + 32) % 256)] (fun _ => True) (fun _ => False) rfl rfl ?aP (fun _ hk => hk.elim) ?aF ?aO ?aB ?aS ?aL ?_; (case aP => exact rfl); (case aB => exact cu); (case aF => exact (fun _ _ => trivial)); (case aO => exact uk); (case aS => exact (qo cu)); (case aL => have := LMc17.out; omega); intro v153 w18 ho hb hg hat; rw [← Ny152.out] at ho; have n0_ := qd.mk (Kd.V_afterv (ok := (fun _ => True)) (by (with_reducible repeat (first | apply Kd.xp | apply Kd.xq | apply Kd.xz)); exact Kd.V_mono HO_8.out (fun _ hk => ⟨trivial, hk⟩)) hg hat); have n1_ := qd.mk (hb); have n2_ := qd.mk (ho); clear HO_8; clear HB; clear HO_3; have HO_8 := n0_; have HB := n1_; have HO154 := n2_; clear n0_ n1_ n2_; clear ho hb hg hat))
             go_roundg kj10
             case measure => have := HK1.out; have := HJ10.out; omega
             case rel => exact ⟨(y152), (x4_10), (wrap64 (x10_1 + 1)), yf, yf, H', ⟨by have := HK1.out; have := HJ10.out; omega⟩, ⟨by (with_reducible repeat (first | apply Kd.zq | apply Kd.zl | apply Kd.zt)); exact HO154.out⟩, ⟨by (with_reducible repeat (first | apply Kd.xp | apply Kd.xq | apply Kd.xz)); exact Kd.V_mono HO_8.out (fun _ hk => hk.2)⟩, ⟨by repeat (first | (with_reducible first | exact HB.out | apply qb | apply qa | apply qc) | exact HB.out)⟩⟩
            ·rw [if_neg c17] at H
             exact absurd H y7
           ·rw [if_neg c16] at H
            have c16b0 : decide ((rd y145 x10_1) ≤ 90) = false := decide_eq_false c16
            clear c16
            by_cases c19 : x3_10.length < 140737488355328
            ·rw [if_pos c19] at H
             have LMc19 := qd.mk c19
             clear c19
             obtain ⟨y155, hy155⟩ : ∃ y_ : List Int, y_ = (x3_10 ++ [(rd y145 x10_1)]) := ⟨_, rfl⟩
             replace H : (q4.l0 kj10 y155 x4_10 y145 (y145.length : Int) (wrap64 (x10_1 + 1))) = some r := by first | (rw [hy155]; with_reducible exact H) | (have H2_ := (Option.bind_some _ _).symm.trans H; rw [hy155]; with_reducible exact H2_) | (have H2_ := (Option.bind_some _ _).symm.trans H; with_reducible exact H2_) | with_reducible exact H | (rw [hy155]; exact H) | exact H
             have Ny155 := qd.mk hy155
             clear hy155
             have H' := qd.mk H
             clear H
             go_wp2_with (first | ((with_reducible refine xy (b := .append) (xs := #[.tmp 31, .tmp 33]) rfl ?_); at_builtin; refine Kd.R_append (Kd.int .u8) (w0 := w) w.heap.size rfl (.tmp 31) (.tmp 33) 97 5 (.int .u8 0) 1 rfl Tryz.underlying97 info5 rfl (by decide) yo u3 x3_10 (rd y145 x10_1) [.int .u8 (rd y145 x10_1)] (fun _ => True) (fun _ => False) rfl rfl ?aP (fun _ hk => hk.elim) ?aF ?aO ?aB ?aS ?aL ?_; (case aP => exact rfl); (case aB => exact cu); (case aF => exact (fun _ _ => trivial)); (case aO => exact uk); (case aS => exact (qo cu)); (case aL => have := LMc19.out; omega); intro v156 w20 ho hb hg hat; rw [← Ny155.out] at ho; have n0_ := qd.mk (Kd.V_afterv (ok := (fun _ => True)) (by (with_reducible repeat (first | apply Kd.xp | apply Kd.xq | apply Kd.xz)); exact Kd.V_mono HO_8.out (fun _ hk => ⟨trivial, hk⟩)) hg hat); have n1_ := qd.mk (hb); have n2_ := qd.mk (ho); clear HO_8; clear HB; clear HO_3; have HO_8 := n0_; have HB := n1_; have HO157 := n2_; clear n0_ n1_ n2_; clear ho hb hg hat))
             go_roundg kj10
             case measure => have := HK1.out; have := HJ10.out; omega
             case rel => exact ⟨(y155), (x4_10), (wrap64 (x10_1 + 1)), yf, yf, H', ⟨by have := HK1.out; have := HJ10.out; omega⟩, ⟨by (with_reducible repeat (first | apply Kd.zq | apply Kd.zl | apply Kd.zt)); exact HO157.out⟩, ⟨by (with_reducible repeat (first | apply Kd.xp | apply Kd.xq | apply Kd.xz)); exact Kd.V_mono HO_8.out (fun _ hk => hk.2)⟩, ⟨by repeat (first | (with_reducible first | exact HB.out | apply qb | apply qa | apply qc) | exact HB.out)⟩⟩
            ·rw [if_neg c19] at H
             exact absurd H y7
          ·rw [if_neg c15] at H
           have c15b0 : decide (65 ≤ (rd y145 x10_1)) = false := decide_eq_false c15
           clear c15
           by_cases c21 : x3_10.length < 140737488355328
           ·rw [if_pos c21] at H
            have LMc21 := qd.mk c21
            clear c21
            obtain ⟨y158, hy158⟩ : ∃ y_ : List Int, y_ = (x3_10 ++ [(rd y145 x10_1)]) := ⟨_, rfl⟩
            replace H : (q4.l0 kj10 y158 x4_10 y145 (y145.length : Int) (wrap64 (x10_1 + 1))) = some r := by first | (rw [hy158]; with_reducible exact H) | (have H2_ := (Option.bind_some _ _).symm.trans H; rw [hy158]; with_reducible exact H2_) | (have H2_ := (Option.bind_some _ _).symm.trans H; with_reducible exact H2_) | with_reducible exact H | (rw [hy158]; exact H) | exact H
            have Ny158 := qd.mk hy158
            clear hy158
            have H' := qd.mk H
            clear H
            go_wp2_with (first | ((with_reducible refine xy (b := .append) (xs := #[.tmp 31, .tmp 33]) rfl ?_); at_builtin; refine Kd.R_append (Kd.int .u8) (w0 := w) w.heap.size rfl (.tmp 31) (.tmp 33) 97 5 (.int .u8 0) 1 rfl Tryz.underlying97 info5 rfl (by decide) yo u3 x3_10 (rd y145 x10_1) [.int .u8 (rd y145 x10_1)] (fun _ => True) (fun _ => False) rfl rfl ?aP (fun _ hk => hk.elim) ?aF ?aO ?aB ?aS ?aL ?_; (case aP => exact rfl); (case aB => exact cu); (case aF => exact (fun _ _ => trivial)); (case aO => exact uk); (case aS => exact (qo cu)); (case aL => have := LMc21.out; omega); intro v159 w22 ho hb hg hat; rw [← Ny158.out] at ho; have n0_ := qd.mk (Kd.V_afterv (ok := (fun _ => True)) (by (with_reducible repeat (first | apply Kd.xp | apply Kd.xq | apply Kd.xz)); exact Kd.V_mono HO_8.out (fun _ hk => ⟨trivial, hk⟩)) hg hat); have n1_ := qd.mk (hb); have n2_ := qd.mk (ho); clear HO_8; clear HB; clear HO_3; have HO_8 := n0_; have HB := n1_; have HO160 := n2_; clear n0_ n1_ n2_; clear ho hb hg hat))
            go_roundg kj10
            case measure => have := HK1.out; have := HJ10.out; omega
            case rel => exact ⟨(y158), (x4_10), (wrap64 (x10_1 + 1)), yf, yf, H', ⟨by have := HK1.out; have := HJ10.out; omega⟩, ⟨by (with_reducible repeat (first | apply Kd.zq | apply Kd.zl | apply Kd.zt)); exact HO160.out⟩, ⟨by (with_reducible repeat (first | apply Kd.xp | apply Kd.xq | apply Kd.xz)); exact Kd.V_mono HO_8.out (fun _ hk => hk.2)⟩, ⟨by repeat (first | (with_reducible first | exact HB.out | apply qb | apply qa | apply qc) | exact HB.out)⟩⟩
           ·rw [if_neg c21] at H
            exact absurd H y7
      ·rw [if_neg c8] at H
       exact absurd H y7
     ·rw [if_neg c7] at H
      exact absurd H y7
    ·rw [if_neg c6] at H
     have c6b0 : decide (x10_1 < (y145.length : Int)) = false := decide_eq_false c6
     clear c6
     obtain rfl := Option.some.inj H
     have hcv23 := kj (P := Tryz.prog) Tryz.underlying97 Tryz.underlying5 Tryz.underlying9 (Kd.own_of_R HO_3.out)
     go_wp2
     go_ret
     exact ⟨by first | rfl | (simp [qi, qj] <;> rfl) | (simp [*, qi, qj] <;> rfl), by repeat (first | (with_reducible first | exact HB.out | apply qb | apply qa | apply qc) | exact HB.out)⟩
 ·rw [if_neg c2] at H
  exact absurd H y7
def xg.f (k : Nat) (a0 : ByteArray) (a1 : ByteArray) : Option (Bool) := (q4.f k a0).bind fun t161 => ((q4.f k a1).bind fun t162 => (some (t161.toList == t162.toList)))
theorem xg.mono : ∀ a0 a1 k, LeO (xg.f k a0 a1) (xg.f (k + 1) a0 a1) := by
 intro a0 a1 k
 unfold xg.f
 repeat' first
   | (with_reducible exact q4.mono _ _)
   | (with_reducible exact LeO.refl _)
   | (with_reducible exact LeO.none _)
   | (with_reducible refine LeO.ite ?_ ?_)
   | (with_reducible refine LeO.bind ?_ (fun _ => ?_))
set_option maxHeartbeats 8000000 in
set_option maxRecDepth 100000 in
theorem xg.calls (k : Nat) (a0 : ByteArray) (a1 : ByteArray) (r : Bool) (w : World) (h : xg.f k a0 a1 = some r) :
  Calls Tryz.prog 170 #[.string a0, .string a1] w fun e w' => e = .returned (.bool r) ∧ Below w.heap.size w w' := by
 have HB := qd.mk (Below.refl w.heap.size w)
 have H : ((q4.f k a0).bind fun t161 => ((q4.f k a1).bind fun t162 => (some (t161.toList == t162.toList)))) = some r := h
 clear h
 replace H := Option.bind_eq_some_iff.mp H
 obtain ⟨t161, A30, H⟩ := H
 replace H : ((q4.f k a1).bind fun t162 => (some (t161.toList == t162.toList))) = some r := H
 have A3 := qd.mk A30
 clear A30
 replace H := Option.bind_eq_some_iff.mp H
 obtain ⟨t162, A40, H⟩ := H
 replace H : (some (t161.toList == t162.toList)) = some r := H
 have A4 := qd.mk A40
 clear A40
 obtain rfl := Option.some.inj H
 go_enter Tryz.func170, Tryz.ntmps170
 go_wp2_with (first | ((with_reducible refine qp (f := 185) rfl ?_); refine za (some 6) rfl rfl Tryz.func185 yg rfl #[.string a0] rfl cz ?_; (with_reducible refine (q4.calls k a0 t161 _ A3.out).mono ?_); rintro e w5 ⟨rfl, hb⟩; refine ⟨_, rfl, ?_⟩; have n0_ := qd.mk (qf cu hb); clear HB; have HB := n0_; clear n0_; (try clear hb); (try clear hb2); (try clear hk); (try clear hi)) | ((with_reducible refine qp (f := 185) rfl ?_); refine za (some 8) rfl rfl Tryz.func185 yg rfl #[.string a1] rfl cz ?_; (with_reducible refine (q4.calls k a1 t162 _ A4.out).mono ?_); rintro e w6 ⟨rfl, hb⟩; refine ⟨_, rfl, ?_⟩; have n0_ := qd.mk (qf cu hb); clear HB; have HB := n0_; clear n0_; (try clear hb); (try clear hb2); (try clear hk); (try clear hi)))
 go_ret
 exact ⟨by first | rfl | (simp [qi, qj] <;> rfl) | (simp [*, qi, qj] <;> rfl), by repeat (first | (with_reducible first | exact HB.out | apply qb | apply qa | apply qc) | exact HB.out)⟩
end Go.Proofs.YtlamfnaoemingaaGreatDoor.C
end
section
namespace Go.Proofs.YtlamfnaoemingaaGreatDoor.C
open Go.RowKit Go.Proofs.YtlamfnaoemingaaGreatDoorW.PrintWords Go.Proofs.YtlamfnaoemingaaGreatDoorW.PrintLast Go.Proofs.YtlamfnaoemingaaGreatDoorW.PrintMore
attribute [local go_sem] zw zx xe xd zn zp zy zz
set_option linter.unusedVariables false
set_option linter.unusedSimpArgs false
def ze.l0 : Nat → List (S83) → Int → Int → ByteArray → Int → ByteArray → Option (Bool)
 | 0, _, _, _, _, _, _ => none
 | k + 1, x7, x8, x9, x164000, x164001, x164002 => if x9 < x8 then (if 0 ≤ x9 then (if x9 < (x7.length : Int) then (if x164000.toList = ((q9 x7 x9).f0).toList then ((xg.f k x164002 ((q9 x7 x9).f2)).bind fun t166 => (if t166 = true then (some true) else (ze.l0 k x7 x8 (wrap64 (x9 + 1)) x164000 x164001 x164002))) else (ze.l0 k x7 x8 (wrap64 (x9 + 1)) x164000 x164001 x164002)) else (none)) else (none)) else (some false)
def ze.f (k : Nat) (l0 : List (S83)) (a1_0 : ByteArray) (a1_1 : Int) (a1_2 : ByteArray) : Option (Bool) := ze.l0 k l0 (l0.length : Int) 0 a1_0 a1_1 a1_2
theorem ze.zv : ∀ k, (∀ y0 y1 y2 y3 y4 y5, LeO (ze.l0 k y0 y1 y2 y3 y4 y5) (ze.l0 (k + 1) y0 y1 y2 y3 y4 y5))
 | 0 => fun _ _ _ _ _ _ r h => by simp [ze.l0] at h
 | k + 1 => by
  have ih0 := ze.zv k
  ·intro y0 y1 y2 y3 y4 y5
   unfold ze.l0
   repeat' first
   | (with_reducible exact ih0 _ _ _ _ _ _)
   | (with_reducible exact xg.mono _ _ _)
   | (with_reducible exact LeO.refl _)
   | (with_reducible exact LeO.none _)
   | (with_reducible refine LeO.ite ?_ ?_)
   | (with_reducible refine LeO.bind ?_ (fun _ => ?_))
theorem ze.mono : ∀ a0 a1 a2 a3 k, LeO (ze.f k a0 a1 a2 a3) (ze.f (k + 1) a0 a1 a2 a3) := by
 intro a0 a1 a2 a3 k
 have ih0 := ze.zv k
 unfold ze.f
 repeat' first
   | (with_reducible exact ih0 _ _ _ _ _ _)
   | (with_reducible exact xg.mono _ _ _)
   | (with_reducible exact LeO.refl _)
   | (with_reducible exact LeO.none _)
   | (with_reducible refine LeO.ite ?_ ?_)
   | (with_reducible refine LeO.bind ?_ (fun _ => ?_))
set_option maxHeartbeats 8000000 in
set_option maxRecDepth 100000 in
theorem ze.calls (k : Nat) (A0 : Option Addr) (c0 : Nat) (l0 : List (S83)) (a1_0 : ByteArray) (a1_1 : Int) (a1_2 : ByteArray) (r : Bool) (w : World) (hr0 : Kd.C k83 w A0 l0.length l0) (hc0 : l0.length ≤ c0) (h : ze.f k l0 a1_0 a1_1 a1_2 = some r) :
  Calls Tryz.prog 148 #[.slice A0 l0.length c0, .agg #[.string a1_0, .int .i64 a1_1, .string a1_2]] w fun e w' => e = .returned (.bool r) ∧ Below w.heap.size w w' := by
 have hu83 := Tryz.underlying83
 have HR0 := qd.mk hr0
 have HC0 := qd.mk hc0
 clear hr0 hc0
 have HB := qd.mk (Below.refl w.heap.size w)
 have H : (ze.l0 k l0 (l0.length : Int) 0 a1_0 a1_1 a1_2) = some r := h
 clear h
 have H' := qd.mk H
 clear H
 go_enter Tryz.func148, Tryz.ntmps148
 go_wp2_with (first | ((with_reducible refine q8 (N := 3) rfl ?_); refine zh ?hg (N := 3) ?hd (cs := #[.string a1_0, .int .i64 a1_1, .string a1_2]) (t := 83) ?hr ?_; (case hd => rfl); (case hg => rfl); (case hr => first | (go_simp; done) | (go_simp; rfl)); intro gb163 hg w3 hbox hb; have n0_ := qd.mk (qf cu hb); have n1_ := qd.mk (hbox); have n2_ := qd.mk ((by rw [hg]; exact (qo cu) : w.heap.size ≤ gb163)); have n3_ := qd.mk ((by rw [hg]; exact (qo cu) : w.heap.size ≤ gb163)); clear HB; have HB := n0_; have BK163 := n1_; have GW163 := n2_; have GE163 := n3_; clear n0_ n1_ n2_ n3_; clear hb hbox hg))
 go_loopg [9] k (fun kq v9 w' => ∃ (x9_1 : Int), v9 = .int .i64 x9_1 ∧ qd (ze.l0 kq l0 (l0.length : Int) x9_1 a1_0 a1_1 a1_2 = some r) ∧ qd (kq ≤ k) ∧ qd (w'.heap[gb163]? = some (.cells #[.string a1_0, .int .i64 a1_1, .string a1_2] 83 (0, 0))) ∧ qd (Below w.heap.size w w'))
 case atStart => exact ⟨(0), yf, H', ⟨Nat.le_refl _⟩, ⟨by (with_reducible repeat (first | refine qm ?_ _ | refine qn ?_ | refine ql ?_ _)); exact BK163.out⟩, ⟨by repeat (first | (with_reducible first | exact HB.out | apply qb | apply qa | apply qc | refine qh ?_ GE163.out) | exact HB.out)⟩⟩
 case round =>
  clear H'
  (try clear c1); try clear p2
  obtain ⟨x9_1, rfl, HA, HK1, BK163, HB⟩ := hrel
  cases gk with
  | zero => exact absurd HA.out (by simp [ze.l0])
  | succ k1 =>
   have H := HA.out
   clear HA
   simp only [ze.l0] at H
   by_cases c4 : x9_1 < (l0.length : Int)
   ·rw [if_pos c4] at H
    have c4b0 : decide (x9_1 < (l0.length : Int)) = true := decide_eq_true c4
    clear c4
    by_cases c5 : 0 ≤ x9_1
    ·rw [if_pos c5] at H
     have c5b0 : decide (0 ≤ x9_1) = true := decide_eq_true c5
     clear c5
     by_cases c6 : x9_1 < (l0.length : Int)
     ·rw [if_pos c6] at H
      have c6b0 : decide (x9_1 < (l0.length : Int)) = true := decide_eq_true c6
      clear c6
      by_cases c7 : a1_0.toList = ((q9 l0 x9_1).f0).toList
      ·rw [if_pos c7] at H
       have c7b0 : (a1_0.toList == ((q9 l0 x9_1).f0).toList) = true := beq_iff_eq.mpr c7
       have c7b1 : (a1_0.toList != ((q9 l0 x9_1).f0).toList) = false := bne_eq_false_iff_eq.mpr c7
       clear c7
       replace H := Option.bind_eq_some_iff.mp H
       obtain ⟨t166, A80, H⟩ := H
       replace H : (if t166 = true then (some true) else (ze.l0 k1 l0 (l0.length : Int) (wrap64 (x9_1 + 1)) a1_0 a1_1 a1_2)) = some r := H
       have A8 := qd.mk A80
       clear A80
       by_cases c9 : t166 = true
       ·subst c9
        have H1 : (some true) = some r := by rw [if_pos rfl] at H; exact H
        clear H
        have H := H1
        clear H1
        obtain rfl := Option.some.inj H
        have p164 : 0 ≤ (x9_1 : Int) := of_decide_eq_true yc
        have q164 : x9_1 < (l0.length : Int) := of_decide_eq_true yc
        obtain ⟨ad164, e164, hx164_0, hx164_1, hx164_2⟩ := at_T83 HR0.out x9_1 p164 q164
        cases e164
        replace hx164_0 := (HB.out.cell (World.block_lt_of_cell? w _ hx164_0)).trans hx164_0
        replace hx164_1 := (HB.out.cell (World.block_lt_of_cell? w _ hx164_1)).trans hx164_1
        replace hx164_2 := (HB.out.cell (World.block_lt_of_cell? w _ hx164_2)).trans hx164_2
        replace p164 := eq_true p164
        replace q164 := eq_true q164
        go_wp2_with (first | ((with_reducible refine q8 (N := 6) rfl ?_); refine zh ?hg (N := 6) ?hd (cs := #[.string (⟨#[]⟩ : ByteArray), .int .i64 0, .string (⟨#[]⟩ : ByteArray)]) (t := 83) ?hr ?_; (case hd => rfl); (case hg => rfl); (case hr => first | (go_simp; done) | (go_simp; rfl)); intro gb165 hg w10 hbox hb; have n0_ := qd.mk (qx (g := gb163) (o := .cells #[.string a1_0, .int .i64 a1_1, .string a1_2] 83 (0, 0)) yx hb); have n1_ := qd.mk (qf yu hb); have n2_ := qd.mk (hbox); have n3_ := qd.mk ((by rw [hg]; exact (qo yu) : w.heap.size ≤ gb165)); have n4_ := qd.mk ((by rw [hg]; exact (qo yu) : w.heap.size ≤ gb165)); have n5_ := qd.mk ((by rw [hg]; exact Nat.ne_of_lt (zo (g := gb163) (o := .cells #[.string a1_0, .int .i64 a1_1, .string a1_2] 83 (0, 0)) yx) : gb163 ≠ gb165)); have n6_ := qd.mk ((by rw [hg]; exact Nat.ne_of_gt (zo (g := gb163) (o := .cells #[.string a1_0, .int .i64 a1_1, .string a1_2] 83 (0, 0)) yx) : gb165 ≠ gb163)); clear BK163; clear HB; have BK163 := n0_; have HB := n1_; have BK165 := n2_; have GW165 := n3_; have GE165 := n4_; have NB163_165 := n5_; have NB165_163 := n6_; clear n0_ n1_ n2_ n3_ n4_ n5_ n6_; clear hb hbox hg; have hnb11 := NB165_163.out; have hnc11 := NB163_165.out; have hcz12_0 : w10.cell? ⟨gb165, 0, none⟩ = some (.string (⟨#[]⟩ : ByteArray)) := (qe BK165.out 0).trans rfl; have hcz12_1 : w10.cell? ⟨gb165, 1, none⟩ = some (.int .i64 0) := (qe BK165.out 1).trans rfl; have hcz12_2 : w10.cell? ⟨gb165, 2, none⟩ = some (.string (⟨#[]⟩ : ByteArray)) := (qe BK165.out 2).trans rfl; have hfz12_0 := qg BK165.out 0; have hfz12_1 := qg BK165.out 1; have hfz12_2 := qg BK165.out 2; have hcz13_0 : w10.cell? ⟨gb163, 0, none⟩ = some (.string a1_0) := (qe BK163.out 0).trans rfl; have hcz13_1 : w10.cell? ⟨gb163, 1, none⟩ = some (.int .i64 a1_1) := (qe BK163.out 1).trans rfl; have hcz13_2 : w10.cell? ⟨gb163, 2, none⟩ = some (.string a1_2) := (qe BK163.out 2).trans rfl; have hfz13_0 := qg BK163.out 0; have hfz13_1 := qg BK163.out 1; have hfz13_2 := qg BK163.out 2) | (go_at_call 170; (with_reducible refine (xg.calls k1 a1_2 ((q9 l0 x9_1).f2) true _ A8.out).mono ?_); rintro e w14 ⟨rfl, hb⟩; have n0_ := qd.mk (qx (g := gb163) (o := .cells #[.string a1_0, .int .i64 a1_1, .string a1_2] 83 (0, 0)) uh hb); have n1_ := qd.mk (qx (g := gb165) (o := .cells #[.string ((q9 l0 x9_1).f0), .int .i64 ((q9 l0 x9_1).f1), .string ((q9 l0 x9_1).f2)] 83 (0, 0)) (by (with_reducible repeat (first | refine qm ?_ _ | refine qn ?_ | refine ql ?_ _)); refine xo (cs := #[.string ((q9 l0 x9_1).f0), .int .i64 ((q9 l0 x9_1).f1), .string (⟨#[]⟩ : ByteArray)]) ?_ 2 _ rfl; (with_reducible repeat (first | refine qm ?_ _ | refine qn ?_ | refine ql ?_ _)); refine xo (cs := #[.string ((q9 l0 x9_1).f0), .int .i64 0, .string (⟨#[]⟩ : ByteArray)]) ?_ 1 _ rfl; (with_reducible repeat (first | refine qm ?_ _ | refine qn ?_ | refine ql ?_ _)); refine xo (cs := #[.string (⟨#[]⟩ : ByteArray), .int .i64 0, .string (⟨#[]⟩ : ByteArray)]) ?_ 0 _ rfl; (with_reducible repeat (first | refine qm ?_ _ | refine qn ?_ | refine ql ?_ _)); exact BK165.out) hb); have n2_ := qd.mk (qf uw hb); clear BK163; clear BK165; clear HB; have BK163 := n0_; have BK165 := n1_; have HB := n2_; clear n0_ n1_ n2_; (try clear hb); (try clear hb2); (try clear hk); (try clear hi)))
        go_ret
        exact ⟨by first | rfl | (simp [qi, qj] <;> rfl) | (simp [*, qi, qj] <;> rfl), by repeat (first | (with_reducible first | exact HB.out | apply qb | apply qa | apply qc | refine qh ?_ GE163.out | refine qh ?_ GE165.out) | exact HB.out)⟩
       ·replace c9 := Bool.eq_false_iff.mpr c9
        subst c9
        have H1 : (ze.l0 k1 l0 (l0.length : Int) (wrap64 (x9_1 + 1)) a1_0 a1_1 a1_2) = some r := by rw [if_neg (show ¬ (false = true) by decide)] at H; exact H
        clear H
        have H := H1
        clear H1
        have H' := qd.mk H
        clear H
        have p164 : 0 ≤ (x9_1 : Int) := of_decide_eq_true yc
        have q164 : x9_1 < (l0.length : Int) := of_decide_eq_true yc
        obtain ⟨ad164, e164, hx164_0, hx164_1, hx164_2⟩ := at_T83 HR0.out x9_1 p164 q164
        cases e164
        replace hx164_0 := (HB.out.cell (World.block_lt_of_cell? w _ hx164_0)).trans hx164_0
        replace hx164_1 := (HB.out.cell (World.block_lt_of_cell? w _ hx164_1)).trans hx164_1
        replace hx164_2 := (HB.out.cell (World.block_lt_of_cell? w _ hx164_2)).trans hx164_2
        replace p164 := eq_true p164
        replace q164 := eq_true q164
        go_wp2_with (first | ((with_reducible refine q8 (N := 6) rfl ?_); refine zh ?hg (N := 6) ?hd (cs := #[.string (⟨#[]⟩ : ByteArray), .int .i64 0, .string (⟨#[]⟩ : ByteArray)]) (t := 83) ?hr ?_; (case hd => rfl); (case hg => rfl); (case hr => first | (go_simp; done) | (go_simp; rfl)); intro gb165 hg w15 hbox hb; have n0_ := qd.mk (qx (g := gb163) (o := .cells #[.string a1_0, .int .i64 a1_1, .string a1_2] 83 (0, 0)) yx hb); have n1_ := qd.mk (qf yu hb); have n2_ := qd.mk (hbox); have n3_ := qd.mk ((by rw [hg]; exact (qo yu) : w.heap.size ≤ gb165)); have n4_ := qd.mk ((by rw [hg]; exact (qo yu) : w.heap.size ≤ gb165)); have n5_ := qd.mk ((by rw [hg]; exact Nat.ne_of_lt (zo (g := gb163) (o := .cells #[.string a1_0, .int .i64 a1_1, .string a1_2] 83 (0, 0)) yx) : gb163 ≠ gb165)); have n6_ := qd.mk ((by rw [hg]; exact Nat.ne_of_gt (zo (g := gb163) (o := .cells #[.string a1_0, .int .i64 a1_1, .string a1_2] 83 (0, 0)) yx) : gb165 ≠ gb163)); clear BK163; clear HB; have BK163 := n0_; have HB := n1_; have BK165 := n2_; have GW165 := n3_; have GE165 := n4_; have NB163_165 := n5_; have NB165_163 := n6_; clear n0_ n1_ n2_ n3_ n4_ n5_ n6_; clear hb hbox hg; have hnb16 := NB165_163.out; have hnc16 := NB163_165.out; have hcz17_0 : w15.cell? ⟨gb165, 0, none⟩ = some (.string (⟨#[]⟩ : ByteArray)) := (qe BK165.out 0).trans rfl; have hcz17_1 : w15.cell? ⟨gb165, 1, none⟩ = some (.int .i64 0) := (qe BK165.out 1).trans rfl; have hcz17_2 : w15.cell? ⟨gb165, 2, none⟩ = some (.string (⟨#[]⟩ : ByteArray)) := (qe BK165.out 2).trans rfl; have hfz17_0 := qg BK165.out 0; have hfz17_1 := qg BK165.out 1; have hfz17_2 := qg BK165.out 2; have hcz18_0 : w15.cell? ⟨gb163, 0, none⟩ = some (.string a1_0) := (qe BK163.out 0).trans rfl; have hcz18_1 : w15.cell? ⟨gb163, 1, none⟩ = some (.int .i64 a1_1) := (qe BK163.out 1).trans rfl; have hcz18_2 : w15.cell? ⟨gb163, 2, none⟩ = some (.string a1_2) := (qe BK163.out 2).trans rfl; have hfz18_0 := qg BK163.out 0; have hfz18_1 := qg BK163.out 1; have hfz18_2 := qg BK163.out 2) | (go_at_call 170; (with_reducible refine (xg.calls k1 a1_2 ((q9 l0 x9_1).f2) false _ A8.out).mono ?_); rintro e w19 ⟨rfl, hb⟩; have n0_ := qd.mk (qx (g := gb163) (o := .cells #[.string a1_0, .int .i64 a1_1, .string a1_2] 83 (0, 0)) uh hb); have n1_ := qd.mk (qx (g := gb165) (o := .cells #[.string ((q9 l0 x9_1).f0), .int .i64 ((q9 l0 x9_1).f1), .string ((q9 l0 x9_1).f2)] 83 (0, 0)) (by (with_reducible repeat (first | refine qm ?_ _ | refine qn ?_ | refine ql ?_ _)); refine xo (cs := #[.string ((q9 l0 x9_1).f0), .int .i64 ((q9 l0 x9_1).f1), .string (⟨#[]⟩ : ByteArray)]) ?_ 2 _ rfl; (with_reducible repeat (first | refine qm ?_ _ | refine qn ?_ | refine ql ?_ _)); refine xo (cs := #[.string ((q9 l0 x9_1).f0), .int .i64 0, .string (⟨#[]⟩ : ByteArray)]) ?_ 1 _ rfl; (with_reducible repeat (first | refine qm ?_ _ | refine qn ?_ | refine ql ?_ _)); refine xo (cs := #[.string (⟨#[]⟩ : ByteArray), .int .i64 0, .string (⟨#[]⟩ : ByteArray)]) ?_ 0 _ rfl; (with_reducible repeat (first | refine qm ?_ _ | refine qn ?_ | refine ql ?_ _)); exact BK165.out) hb); have n2_ := qd.mk (qf uw hb); clear BK163; clear BK165; clear HB; have BK163 := n0_; have BK165 := n1_; have HB := n2_; clear n0_ n1_ n2_; (try clear hb); (try clear hb2); (try clear hk); (try clear hi)))
        go_roundg k1
        case measure => have := HK1.out; omega
        case rel => exact ⟨(wrap64 (x9_1 + 1)), yf, H', ⟨by have := HK1.out; omega⟩, ⟨by (with_reducible repeat (first | refine qm ?_ _ | refine qn ?_ | refine ql ?_ _)); exact BK163.out⟩, ⟨by repeat (first | (with_reducible first | exact HB.out | apply qb | apply qa | apply qc | refine qh ?_ GE163.out | refine qh ?_ GE165.out) | exact HB.out)⟩⟩
      ·rw [if_neg c7] at H
       have c7b0 : (a1_0.toList == ((q9 l0 x9_1).f0).toList) = false := beq_eq_false_iff_ne.mpr c7
       have c7b1 : (a1_0.toList != ((q9 l0 x9_1).f0).toList) = true := bne_iff_ne.mpr c7
       have H' := qd.mk H
       clear H
       have p164 : 0 ≤ (x9_1 : Int) := of_decide_eq_true yc
       have q164 : x9_1 < (l0.length : Int) := of_decide_eq_true yc
       obtain ⟨ad164, e164, hx164_0, hx164_1, hx164_2⟩ := at_T83 HR0.out x9_1 p164 q164
       cases e164
       replace hx164_0 := (HB.out.cell (World.block_lt_of_cell? w _ hx164_0)).trans hx164_0
       replace hx164_1 := (HB.out.cell (World.block_lt_of_cell? w _ hx164_1)).trans hx164_1
       replace hx164_2 := (HB.out.cell (World.block_lt_of_cell? w _ hx164_2)).trans hx164_2
       replace p164 := eq_true p164
       replace q164 := eq_true q164
       go_wp2_with (first | ((with_reducible refine q8 (N := 6) rfl ?_); refine zh ?hg (N := 6) ?hd (cs := #[.string (⟨#[]⟩ : ByteArray), .int .i64 0, .string (⟨#[]⟩ : ByteArray)]) (t := 83) ?hr ?_; (case hd => rfl); (case hg => rfl); (case hr => first | (go_simp; done) | (go_simp; rfl)); intro gb165 hg w20 hbox hb; have n0_ := qd.mk (qx (g := gb163) (o := .cells #[.string a1_0, .int .i64 a1_1, .string a1_2] 83 (0, 0)) yx hb); have n1_ := qd.mk (qf yu hb); have n2_ := qd.mk (hbox); have n3_ := qd.mk ((by rw [hg]; exact (qo yu) : w.heap.size ≤ gb165)); have n4_ := qd.mk ((by rw [hg]; exact (qo yu) : w.heap.size ≤ gb165)); have n5_ := qd.mk ((by rw [hg]; exact Nat.ne_of_lt (zo (g := gb163) (o := .cells #[.string a1_0, .int .i64 a1_1, .string a1_2] 83 (0, 0)) yx) : gb163 ≠ gb165)); have n6_ := qd.mk ((by rw [hg]; exact Nat.ne_of_gt (zo (g := gb163) (o := .cells #[.string a1_0, .int .i64 a1_1, .string a1_2] 83 (0, 0)) yx) : gb165 ≠ gb163)); clear BK163; clear HB; have BK163 := n0_; have HB := n1_; have BK165 := n2_; have GW165 := n3_; have GE165 := n4_; have NB163_165 := n5_; have NB165_163 := n6_; clear n0_ n1_ n2_ n3_ n4_ n5_ n6_; clear hb hbox hg; have hnb21 := NB165_163.out; have hnc21 := NB163_165.out; have hcz22_0 : w20.cell? ⟨gb165, 0, none⟩ = some (.string (⟨#[]⟩ : ByteArray)) := (qe BK165.out 0).trans rfl; have hcz22_1 : w20.cell? ⟨gb165, 1, none⟩ = some (.int .i64 0) := (qe BK165.out 1).trans rfl; have hcz22_2 : w20.cell? ⟨gb165, 2, none⟩ = some (.string (⟨#[]⟩ : ByteArray)) := (qe BK165.out 2).trans rfl; have hfz22_0 := qg BK165.out 0; have hfz22_1 := qg BK165.out 1; have hfz22_2 := qg BK165.out 2; have hcz23_0 : w20.cell? ⟨gb163, 0, none⟩ = some (.string a1_0) := (qe BK163.out 0).trans rfl; have hcz23_1 : w20.cell? ⟨gb163, 1, none⟩ = some (.int .i64 a1_1) := (qe BK163.out 1).trans rfl; have hcz23_2 : w20.cell? ⟨gb163, 2, none⟩ = some (.string a1_2) := (qe BK163.out 2).trans rfl; have hfz23_0 := qg BK163.out 0; have hfz23_1 := qg BK163.out 1; have hfz23_2 := qg BK163.out 2))
       go_roundg k1
       case measure => have := HK1.out; omega
       case rel => exact ⟨(wrap64 (x9_1 + 1)), yf, H', ⟨by have := HK1.out; omega⟩, ⟨by (with_reducible repeat (first | refine qm ?_ _ | refine qn ?_ | refine ql ?_ _)); refine blk_far ?_ NB163_165.out _; (with_reducible repeat (first | refine qm ?_ _ | refine qn ?_ | refine ql ?_ _)); refine blk_far ?_ NB163_165.out _; (with_reducible repeat (first | refine qm ?_ _ | refine qn ?_ | refine ql ?_ _)); refine blk_far ?_ NB163_165.out _; (with_reducible repeat (first | refine qm ?_ _ | refine qn ?_ | refine ql ?_ _)); exact BK163.out⟩, ⟨by repeat (first | (with_reducible first | exact HB.out | apply qb | apply qa | apply qc | refine qh ?_ GE163.out | refine qh ?_ GE165.out) | exact HB.out)⟩⟩
     ·rw [if_neg c6] at H
      exact absurd H y7
    ·rw [if_neg c5] at H
     exact absurd H y7
   ·rw [if_neg c4] at H
    have c4b0 : decide (x9_1 < (l0.length : Int)) = false := decide_eq_false c4
    clear c4
    obtain rfl := Option.some.inj H
    go_wp2
    go_ret
    exact ⟨by first | rfl | (simp [qi, qj] <;> rfl) | (simp [*, qi, qj] <;> rfl), by repeat (first | (with_reducible first | exact HB.out | apply qb | apply qa | apply qc | refine qh ?_ GE163.out) | exact HB.out)⟩
end Go.Proofs.YtlamfnaoemingaaGreatDoor.C
end
