/- Words, walks and plain laws that the claim rests on, gathered. -/
import Derived.Lib.ConvBytes
import Derived.Shelf.Small.Strs
import Derived.Shelf.Strings.Search1
import Derived.Shelf.Strings.Search2
import Derived.Shelf.Strings.Search3
import Derived.Shelf.Strings.Cut
import Derived.Shelf.Strings.Count
import Derived.Shelf.LaysM
import Derived.Shelf.Strings.Shaped
import Derived.Shelf.Strings.Prefix
import Derived.Shelf.Strings.Split
import Derived.Shelf.Strings.SplitShaped
import Derived.Shelf.Unicode.DecodeSlow
import Derived.Test.YtjhlinifnjoefaaDoorProg
import Derived.Laws.StructEq
import Derived.WalkSpells
import Derived.Below
import Derived.Deep.Draws
import Derived.Deep.AppendLies
import Derived.Maps.AppendAt
import Derived.OwnWalk
import Derived.Laws.BytesArg
import Derived.Laws.MakeOwn
import Derived.Laws.OwnMore
import Derived.Deep.OwnRows
import Derived.Tactics
import Derived.Laws.Slices
import Derived.WalkKit
import Derived.KernelRfl
import Derived.RowKit3
import Derived.Deep.LoopGhost
import Derived.Deep.QuietTactic
import Derived.BigQuiet
import Derived.WideLaws
import Derived.Deep.DeepCutAuto
import Derived.Deep.CutBlock
import Derived.Deep.RegionHeld3
import Derived.Laws.Rows
import Derived.Lib.AppendStr
import Derived.ArgAppend
import Derived.Laws.IdiomCopy
import Derived.OrdersHeld
import Derived.Laws.BitsLemmas
import Derived.RowKit
import Derived.Lib.SplitLaws
import Derived.Test.YtjhlinifnjoefaaDoorNM0
import Derived.Test.YtjhlinifnjoefaaDoorNM1
import Derived.Test.YtjhlinifnjoefaaDoorNM2
import Derived.Test.YtjhlinifnjoefaaDoorNM3
import Derived.Test.YtjhlinifnjoefaaDoorNM4
import Derived.Test.YtjhlinifnjoefaaDoorNM5
import Derived.Test.YtjhlinifnjoefaaDoorNM6
import Derived.Test.YtjhlinifnjoefaaDoorNM7
import Derived.Test.YtjhlinifnjoefaaDoorNM8
import Derived.Test.YtjhlinifnjoefaaDoorNM9
import Derived.Test.YtjhlinifnjoefaaDoorNM10
import Derived.Test.YtjhlinifnjoefaaDoorNM11
namespace Go.Proofs.YtjhlinifnjoefaaDoorW.PrintLast
end Go.Proofs.YtjhlinifnjoefaaDoorW.PrintLast
namespace Go.Proofs.YtjhlinifnjoefaaDoorW.PrintMore
end Go.Proofs.YtjhlinifnjoefaaDoorW.PrintMore
namespace Go.Proofs.YtjhlinifnjoefaaDoorW.PrintWords
end Go.Proofs.YtjhlinifnjoefaaDoorW.PrintWords
section
namespace Go.Proofs.YtjhlinifnjoefaaDoor.C
open Go.RowKit Go.Proofs.YtjhlinifnjoefaaDoorW.PrintWords Go.Proofs.YtjhlinifnjoefaaDoorW.PrintLast Go.Proofs.YtjhlinifnjoefaaDoorW.PrintMore
attribute [local go_sem] xf xd xm xn z7 z6 xc xe
set_option linter.unusedVariables false
set_option linter.unusedSimpArgs false
def many0 : Nat → Int → Int → List (List S26) → Option (List (List S26))
 | 0, _, _, _ => none
 | k + 1, x0, x8, x => if x8 < (wrap64 (5 + (wrap64 (Int.tmod x0 6)))) then (if x.length < 5864062014805 then (many0 k x0 (wrap64 (x8 + 1)) (x ++ [([(⟨(⟨#[50, 46, 53, 46, 52, 46, 51]⟩ : ByteArray), 19, (⟨#[120]⟩ : ByteArray)⟩ : S26)] : List S26)])) else (none)) else (some x)
def many1 : Nat → Int → Int → List S26 → Option (List S26)
 | 0, _, _, _ => none
 | k + 1, x1, x10, x => if x10 < (wrap64 (Int.tmod x1 7)) then ((zc.f k x10).bind fun t => if (⟨#[50, 46, 53, 46, 52, 46]⟩ : ByteArray).size + t.size ≤ 9223372036854775807 then (if x.length < 3518437208883 then many1 k x1 (wrap64 (x10 + 1)) (x ++ [(⟨(⟨#[50, 46, 53, 46, 52, 46]⟩ : ByteArray) ++ t, 12, (⟨#[121]⟩ : ByteArray)⟩ : S26)]) else none) else none) else some x
def many2 : Nat → Int → Int → ByteArray → Option ByteArray
 | 0, _, _, _ => none
 | k + 1, x2, x12, x => if x12 < (wrap64 (60 + (wrap64 (Int.tmod x2 8)))) then (if x.size + (⟨#[122]⟩ : ByteArray).size ≤ 9223372036854775807 then many2 k x2 (wrap64 (x12 + 1)) (x ++ (⟨#[122]⟩ : ByteArray)) else none) else some x
theorem C_att {w : World} {g : Nat} {x : S26} (hb : w.heap[g]? = some (.cells #[.string x.f0, .int .i64 x.f1, .string x.f2] 26 (0, 0))) : Kd.C k26 w (some ⟨g, 0, none⟩) 1 [x] := by
 refine ⟨rfl, by decide, fun _ => ⟨⟨g, 0, none⟩, rfl, fun j p hj => ?_⟩⟩
 match j, hj with
 | 0, hj =>
  obtain rfl : x = p := by simpa using hj
  refine ⟨[.string x.f0, .int .i64 x.f1, .string x.f2], rfl, k26_mk _ _, fun i u hu => ?_⟩
  rw [show (⟨g, 0, none⟩ : Addr).add (0 * k26.sz + i) = ⟨g, i, none⟩ from by rw [Nat.zero_mul, Nat.zero_add]; exact add_plain g i]
  rw [qq hb i]
  simpa using hu
 | j + 1, hj => simp at hj
theorem C_one {w : World} {g t : Nat} {A : Option Addr} {c : Nat} {xs : List S26} (hb : w.heap[g]? = some (.cells #[.slice A xs.length c] t (0, 0))) (hr : Kd.C k26 w A xs.length xs) (hc : xs.length ≤ c) :
  Kd.C (Kd.slice 26 k26) w (some ⟨g, 0, none⟩) 1 [xs] := by
 refine ⟨rfl, by decide, fun _ => ⟨⟨g, 0, none⟩, rfl, fun j p hj => ?_⟩⟩
 match j, hj with
 | 0, hj =>
  obtain rfl : xs = p := by simpa using hj
  refine ⟨[.slice A xs.length c], rfl, ⟨A, c, rfl, hc, hr⟩, fun i u hu => ?_⟩
  match i, hu with
  | 0, hu =>
   obtain rfl : Value.slice A xs.length c = u := by simpa using hu
   exact (qq hb 0).trans rfl
  | i + 1, hu => simp at hu
 | j + 1, hj => simp at hj
def many.T10 : Bool × List (List Nat × List Nat) := (true, [([], []), ([0], [0]), ([], []), ([2], [2]), ([3], [3]), ([4], [4]), ([], []), ([6], [6]), ([7], [7]), ([8], [8]), ([9], [9]), ([5, 10, 7], [5, 10]), ([1, 0, 1, 2, 3, 4, 5, 6, 7, 8, 9, 10, 11], [1]), ([12, 11, 11, 0, 1, 2, 3, 4, 5, 6, 7, 8, 9, 10, 11], [11, 12])])
def many.B10 : List Nat := [0, 1, 0, 4, 12, 28, 0, 64, 192, 448, 960, 2044, 4095, 8191]
theorem many.tab10 : rtab .any (opsOf Tryd.f3 10) = many.T10 := by kernel_rfl
theorem many.bits10 : waitsOk many.T10.2 many.B10 = true := by kernel_rfl
def many.T20 : Bool × List (List Nat × List Nat) := (true, [([], []), ([0], [0]), ([], []), ([2, 1], [2]), ([1, 3], [1, 3])])
def many.B20 : List Nat := [0, 1, 0, 7, 15]
theorem many.tab20 : rtab .any (opsOf Tryd.f3 20) = many.T20 := by kernel_rfl
theorem many.bits20 : waitsOk many.T20.2 many.B20 = true := by kernel_rfl
set_option maxHeartbeats 8000000 in
set_option maxRecDepth 100000 in
theorem many_calls (k : Nat) (a0 : Int) (a1 : Int) (a2 : Int) (r : List (List S26)) (m : List S26) (v : ByteArray) (e1 e2 e3 : Int) (w : World) (hG : LibHeld w) (h : many0 k a0 0 [] = some r) (h1 : many1 k a1 0 [] = some m) (h2 : many2 k a2 0 (⟨#[]⟩ : ByteArray) = some v)
  (hn : zd.f k r = some e1 ∧ qy.f k r = some e1) (hm : zd.f k [m] = some e2 ∧ qy.f k [m] = some e2)
  (ho : zd.f k [[(⟨(⟨#[50, 46, 53, 46, 52, 46, 49, 49]⟩ : ByteArray), 22, v⟩ : S26)]] = some e3 ∧ qy.f k [[(⟨(⟨#[50, 46, 53, 46, 52, 46, 49, 49]⟩ : ByteArray), 22, v⟩ : S26)]] = some e3)
  (hA : zo.f k = some true) :
  Calls Tryd.prog 3 #[.int .u8 a0, .int .u8 a1, .int .u8 a2] w fun e w' => e = .returned (.bool true) ∧ Below w.heap.size w w' := by
 have hu24 := Tryd.underlying24
 have hu26 := Tryd.underlying26
 have HG := qb.mk hG
 clear hG
 have H1 := qb.mk h1
 have H2 := qb.mk h2
 have HNn := qb.mk hn
 have HNm := qb.mk hm
 have HNo := qb.mk ho
 have HAw := qb.mk hA
 clear h1 h2 hn hm ho hA
 have HB := qb.mk (Below.refl w.heap.size w)
 have H : (many0 k a0 0 ([] : List (List (S26)))) = some r := h
 clear h
 have H' := qb.mk H
 clear H
 go_enter Tryd.func3, Tryd.ntmps3
 go_wp2_with (first | ((with_reducible refine zl (N := 7) rfl ?_); refine zi ?hg (N := 7) ?hd (cs := #[.slice none 0 0]) (t := 24) ?hr ?_; (case hd => rfl); (case hg => rfl); (case hr => first | (go_simp; done) | (go_simp; rfl)); intro gb254 hg w4 hbox hb; have n0_ := qb.mk (qr (by repeat (first | (with_reducible first | exact HB.out | apply qc | apply qa | apply qd) | exact HB.out)) hb); have n1_ := qb.mk (hbox); have n2_ := qb.mk ((by rw [hg]; exact (qt (by repeat (first | (with_reducible first | exact HB.out | apply qc | apply qa | apply qd) | exact HB.out))) : w.heap.size ≤ gb254)); have n3_ := qb.mk ((by rw [hg]; exact (qt (by repeat (first | (with_reducible first | exact HB.out | apply qc | apply qa | apply qd) | exact HB.out))) : w.heap.size ≤ gb254)); clear HB; have HB := n0_; have BK254 := n1_; have GW254 := n2_; have GE254 := n3_; clear n0_ n1_ n2_ n3_; clear hb hbox hg; have hcz5_0 : w4.cell? ⟨gb254, 0, none⟩ = some (.slice none 0 0) := (qq BK254.out 0).trans rfl; have hfz5_0 := qo BK254.out 0))
 go_loopg [8] k (fun kq v8 w' => ∃ (x8_1 : Int) (x255000_1 : List (List (S26))) (u255000 : Value), v8 = .int .i64 x8_1 ∧ qb (many0 kq a0 x8_1 x255000_1 = some r) ∧ qb (kq ≤ k) ∧ qb (Kd.S (Kd.slice 26 k26) 27 w' w.heap.size (fun _ => True) u255000 x255000_1) ∧ qb (w'.heap[gb254]? = some (.cells #[u255000] 24 (0, 0))) ∧ qb (Below w.heap.size w w'))
 case atStart => exact ⟨(0), (([] : List (List (S26)))), (.slice none 0 0), (by first | rfl | (simp; done) | (simp [*]; done)), H', ⟨Nat.le_refl _⟩, ⟨by first | exact Kd.S_nil _ _ _ _ _ | exact Kd.N_nil _ _ _ _ _ | exact Kd.V_nil _ _ _ _ _ | exact Kd.Q_nil _ _ _ _ _ | exact Kd.R_nil _ _ _ _ _⟩, ⟨by (with_reducible repeat (first | refine qi ?_ _ | refine ql ?_ | refine qg ?_ _)); refine zj (cs := #[.slice none 0 0]) ?_ 0 _ rfl; (with_reducible repeat (first | refine qi ?_ _ | refine ql ?_ | refine qg ?_ _)); exact BK254.out⟩, ⟨by repeat (first | (with_reducible first | exact HB.out | apply qc | apply qa | apply qd | refine qh ?_ GE254.out) | exact HB.out)⟩⟩
 case round =>
  clear H'
  (try clear p2); (try clear c3); (try clear hcz5_0); try clear hfz5_0
  obtain ⟨x8_1, x255000_1, u255000, rfl, HA, HK1, HO_255000, BK254, HB⟩ := hrel
  cases gk with
  | zero => exact absurd HA.out (by simp [many0])
  | succ k1 =>
   have H := HA.out
   clear HA
   simp only [many0] at H
   by_cases c6 : x8_1 < (wrap64 (5 + (wrap64 (Int.tmod a0 6))))
   ·rw [if_pos c6] at H
    have c6b0 : decide (x8_1 < (wrap64 (5 + (wrap64 (Int.tmod a0 6))))) = true := decide_eq_true c6
    clear c6
    obtain ⟨y255, hy255⟩ : ∃ y_ : List (S26), y_ = (([(⟨(⟨#[50, 46, 53, 46, 52, 46, 51]⟩ : ByteArray), 19, (⟨#[120]⟩ : ByteArray)⟩ : S26)] : List (S26))) := ⟨_, rfl⟩
    replace H : (if x255000_1.length < 5864062014805 then (many0 k1 a0 (wrap64 (x8_1 + 1)) (x255000_1 ++ [y255])) else (none)) = some r := by first | (rw [hy255]; with_reducible exact H) | (have H2_ := (Option.bind_some _ _).symm.trans H; rw [hy255]; with_reducible exact H2_) | (have H2_ := (Option.bind_some _ _).symm.trans H; with_reducible exact H2_) | with_reducible exact H | (rw [hy255]; exact H) | exact H
    have Ny255 := qb.mk hy255
    clear hy255
    by_cases c7 : x255000_1.length < 5864062014805
    ·rw [if_pos c7] at H
     have LMc7 := qb.mk c7
     clear c7
     obtain ⟨y258, hy258⟩ : ∃ y_ : List (List (S26)), y_ = (x255000_1 ++ [y255]) := ⟨_, rfl⟩
     replace H : (many0 k1 a0 (wrap64 (x8_1 + 1)) y258) = some r := by first | (rw [hy258]; with_reducible exact H) | (have H2_ := (Option.bind_some _ _).symm.trans H; rw [hy258]; with_reducible exact H2_) | (have H2_ := (Option.bind_some _ _).symm.trans H; with_reducible exact H2_) | with_reducible exact H | (rw [hy258]; exact H) | exact H
     have Ny258 := qb.mk hy258
     clear hy258
     have H' := qb.mk H
     clear H
     have hcz8_0 : wr.cell? ⟨gb254, 0, none⟩ = some (u255000) := (qq BK254.out 0).trans rfl
     have hfz8_0 := qo BK254.out 0
     go_wp2_with (first | ((with_reducible refine zl (N := 28) rfl ?_); refine Kd.R_lit k26 _ 26 ?hg (N := 28) ?hd (xs := ([(⟨(⟨#[50, 46, 53, 46, 52, 46, 51]⟩ : ByteArray), 19, (⟨#[120]⟩ : ByteArray)⟩ : S26)] : List (S26))) (inner := [.string (⟨#[50, 46, 53, 46, 52, 46, 51]⟩ : ByteArray), .int .i64 19, .string (⟨#[120]⟩ : ByteArray)]) (ok := fun _ => True) (okp := fun _ => True) ?hr ?hp (fun _ hk => hk) trivial (Below.refl _ _) (Nat.le_refl _) (by simp) ?_; (case hd => rfl); (case hg => rfl); (case hr => first | (go_simp; done) | (go_simp; rfl)); (case hp => exact (Reps.c3 (show Kd.M k26 _ _ _ (⟨(⟨#[50, 46, 53, 46, 52, 46, 51]⟩ : ByteArray), 19, (⟨#[120]⟩ : ByteArray)⟩ : S26) [.string (⟨#[50, 46, 53, 46, 52, 46, 51]⟩ : ByteArray), .int .i64 19, .string (⟨#[120]⟩ : ByteArray)] from (k26_mkM _ _ _ (⟨(⟨#[50, 46, 53, 46, 52, 46, 51]⟩ : ByteArray), 19, (⟨#[120]⟩ : ByteArray)⟩ : S26) )) (Reps.none _ _))); intro v256 w9 ho10 hb hg_ hnew_; clear hg_ hnew_; (first | rw [← Ny255.out] at ho10 | (simp only [Int.reduceToNat] at ho10; rw [← Ny255.out] at ho10)); have n0_ := qb.mk (Kd.S_elder' (by (with_reducible repeat (first | apply Kd.zr | apply Kd.zq | apply Kd.zx)); exact HO_255000.out) (Kd.R_base ho10) hb); have n1_ := qb.mk (Kd.R_lower ho10 (qt (by repeat (first | (with_reducible first | exact HB.out | apply qc | apply qa | apply qd | refine qh ?_ GE254.out) | exact HB.out)))); have n2_ := qb.mk (qz (g := gb254) (o := .cells #[u255000] 24 (0, 0)) (by (with_reducible repeat (first | refine qi ?_ _ | refine ql ?_ | refine qg ?_ _)); exact BK254.out) hb); have n3_ := qb.mk (qr (by repeat (first | (with_reducible first | exact HB.out | apply qc | apply qa | apply qd | refine qh ?_ GE254.out) | exact HB.out)) hb); clear HO_255000; clear BK254; clear HB; have HO_255000 := n0_; have HO257 := n1_; have BK254 := n2_; have HB := n3_; clear n0_ n1_ n2_ n3_; clear hb ho10; obtain ⟨Ao12, co12, eo12⟩ := Kd.kc HO257.out; subst eo12) | ((with_reducible refine xb (b := .append) (xs := #[.tmp 26, .tmp 29]) rfl ?_); at_builtin; refine Kd.S_append (Kd.slice 26 k26) (w0 := w) w.heap.size rfl (.tmp 26) (.tmp 29) 22 27 (.slice none 0 0) 24 rfl Tryd.underlying22 info27 rfl (by decide) (by omega) u255000 x255000_1 y255 [.slice Ao12 y255.length co12] (fun _ => True) (fun k_ => some k_ = (.slice Ao12 y255.length co12 : Value).ownBlock) rfl rfl ?aP (fun k_ hk_ => ((Kd.xp (ok' := fun k_ => ((fun _ => True)) k_ ∧ some k_ ≠ (u255000 : Value).ownBlock) (Kd.R_apart' (HO257.out) (Kd.S_typed HO_255000.out) (by decide)) (fun k_ hk => ⟨trivial, hk.2⟩))).1 k_ hk_.symm) ?aF ?aO ?aB ?aS ?aL ?_; (case aP => exact Kd.M_row (Kd.xp (Kd.R_tight rfl (Kd.xp (ok' := fun k_ => ((fun _ => True)) k_ ∧ some k_ ≠ (u255000 : Value).ownBlock) (Kd.R_apart' (HO257.out) (Kd.S_typed HO_255000.out) (by decide)) (fun k_ hk => ⟨trivial, hk.2⟩))) (fun _ h_ => h_))); (case aB => exact (by repeat (first | (with_reducible first | exact HB.out | apply qc | apply qa | apply qd | refine qh ?_ GE254.out) | exact HB.out))); (case aF => exact (fun _ _ => trivial)); (case aO => exact (by (with_reducible repeat (first | apply Kd.zr | apply Kd.zq | apply Kd.zx)); exact Kd.xt HO_255000.out (fun k_ hk => ⟨trivial, fun e_ => hk.2 e_⟩))); (case aS => exact (qt (by repeat (first | (with_reducible first | exact HB.out | apply qc | apply qa | apply qd | refine qh ?_ GE254.out) | exact HB.out)))); (case aL => have := LMc7.out; omega); intro v259 w11 ho hb hg hat; rw [← Ny258.out] at ho; have n0_ := qb.mk (blk_grown (g := gb254) (o := .cells #[u255000] 24 (0, 0)) (by (with_reducible repeat (first | refine qi ?_ _ | refine ql ?_ | refine qg ?_ _)); exact BK254.out) hg (Kd.S_ne HO_255000.out BK254.out (by decide))); have n1_ := qb.mk (hb); have n2_ := qb.mk (ho); clear BK254; clear HB; clear HO_255000; clear HO257; have BK254 := n0_; have HB := n1_; have HO260 := n2_; clear n0_ n1_ n2_; clear ho hb hg hat; obtain ⟨Ao13, co13, eo13⟩ := Kd.km HO260.out; subst eo13; have hcz14_0 : w11.cell? ⟨gb254, 0, none⟩ = some (u255000) := (qq BK254.out 0).trans rfl; have hfz14_0 := qo BK254.out 0))
     go_roundg k1
     case measure => have := HK1.out; omega
     case rel => exact ⟨(wrap64 (x8_1 + 1)), (y258), (.slice Ao13 y258.length co13), (by first | rfl | (simp; done) | (simp [*]; done)), H', ⟨by have := HK1.out; omega⟩, ⟨by (with_reducible repeat (first | apply Kd.zr | apply Kd.zq | apply Kd.zx)); exact Kd.xt (Kd.S_far (p := ⟨gb254, 0, none⟩) (Kd.xz HO260.out BK254.out (by decide)) (fun _ hk => hk.2) (.slice Ao13 y258.length co13)) (fun _ hk => trivial)⟩, ⟨by (with_reducible repeat (first | refine qi ?_ _ | refine ql ?_ | refine qg ?_ _)); refine zj (cs := #[u255000]) ?_ 0 _ rfl; (with_reducible repeat (first | refine qi ?_ _ | refine ql ?_ | refine qg ?_ _)); exact BK254.out⟩, ⟨by repeat (first | (with_reducible first | exact HB.out | apply qc | apply qa | apply qd | refine qh ?_ GE254.out) | exact HB.out)⟩⟩
    ·rw [if_neg c7] at H
     exact absurd H (by simp)
   ·rw [if_neg c6] at H
    have c6b0 : decide (x8_1 < (wrap64 (5 + (wrap64 (Int.tmod a0 6))))) = false := decide_eq_false c6
    clear c6
    obtain rfl := Option.some.inj H
    obtain ⟨An, cn, rfl⟩ := Kd.km HO_255000.out
    have HN := qb.mk (fun W' (hW : Below wr.heap.size wr W') => Kd.ka (Kd.kf HO_255000.out).2.2 hW)
    have hcn := qb.mk (Kd.kf HO_255000.out).2.1
    have HBr := HB
    clear HB
    rename World => W1
    go_wp2
    obtain ⟨W2, hW2⟩ : ∃ W, W = ((W1.alloc (Obj.cells #[Value.slice none 0 0] 27)).alloc (Obj.cells #[Value.slice (some { block := W1.heap.size, off := 0 }) 1 1] 24)) := ⟨_, rfl⟩
    rw [← hW2]
    have HW := qb.mk (show Below W1.heap.size W1 W2 by rw [hW2]; exact qc (qc (Below.refl _ _) _) _)
    have BKB0 := qb.mk (show W2.heap[W1.heap.size]? = some (.cells #[.slice none 0 0] 27 (0, 0)) by rw [hW2]; exact qg (heap_alloc_new W1 _) _)
    have BKX0 := qb.mk (show W2.heap[W1.heap.size + 1]? = some (.cells #[.slice (some ⟨W1.heap.size, 0, none⟩) 1 1] 24 (0, 0)) by rw [hW2]; simpa using heap_alloc_new (W1.alloc (Obj.cells #[Value.slice none 0 0] 27)) (Obj.cells #[Value.slice (some { block := W1.heap.size, off := 0 }) 1 1] 24))
    have BKn := qb.mk (show W2.heap[gb254]? = some (Obj.cells #[Value.slice An x255000_1.length cn] 24) by rw [hW2]; exact qg (qg (by simpa using BK254.out) _) _)
    have GB := qb.mk (show W1.heap.size ≤ W1.heap.size from Nat.le_refl _)
    clear hW2
    generalize W1.heap.size + 1 = gX at BKX0 ⊢
    generalize hgB_ : W1.heap.size = gB at BKB0 BKX0 GB ⊢
    have GB := qb.mk (show W1.heap.size ≤ gB from Nat.le_of_eq hgB_)
    clear hgB_
    go_loopg [10] k (fun kq v10 w' => ∃ (j : Int) (ys : List S26) (u : Value), v10 = .int .i64 j ∧ qb (many1 kq a1 j ys = some m) ∧ qb (kq ≤ k) ∧ qb (Kd.R k26 26 w' W1.heap.size (fun _ => True) u ys) ∧ qb (w'.heap[gB]? = some (.cells #[u] 27 (0, 0))) ∧ qb (w'.heap[gX]? = some (.cells #[.slice (some ⟨gB, 0, none⟩) 1 1] 24 (0, 0))) ∧ qb (Below W1.heap.size W1 w'))
    case atStart => exact ⟨0, [], .slice none 0 0, rfl, H1, ⟨Nat.le_refl _⟩, ⟨Kd.R_nil _ _ _ _ _⟩, BKB0, BKX0, HW⟩
    case round =>
     obtain ⟨j, ys, u, rfl, HA, HK2, HO, BKB, BKX, HB⟩ := hrel
     cases gk with
     | zero => exact absurd HA.out (by simp [many1])
     | succ k1 =>
      have H := HA.out
      clear HA
      simp only [many1] at H
      by_cases c6 : j < (wrap64 (Int.tmod a1 7))
      ·rw [if_pos c6] at H
       have c6b0 : decide (j < (wrap64 (Int.tmod a1 7))) = true := decide_eq_true c6
       clear c6
       obtain ⟨t, hD, H⟩ := Option.bind_eq_some_iff.mp H
       have AD := qb.mk hD
       clear hD
       by_cases c7 : (⟨#[50, 46, 53, 46, 52, 46]⟩ : ByteArray).size + t.size ≤ 9223372036854775807
       ·rw [if_pos c7] at H
        have c7b2 : (9223372036854775807 < 6 + t.size) = False := eq_false (Nat.not_lt.2 c7)
        have c7b0 := eq_true c7
        have c7b1 : decide ((⟨#[50, 46, 53, 46, 52, 46]⟩ : ByteArray).size + t.size ≤ 9223372036854775807) = true := decide_eq_true c7
        by_cases c8 : ys.length < 3518437208883
        ·rw [if_pos c8] at H
         have LM := qb.mk c8
         clear c8
         have H' := qb.mk H
         clear H
         go_upto_region 10 with (fail)


         replace HB := qb.mk (qd HB.out)
         replace HO := qb.mk (Kd.zf HO.out)
         replace BKB := qb.mk (ql BKB.out)
         replace BKX := qb.mk (ql BKX.out)
         refine start_ (n := 14) (S := fun w' => w'.cell? ⟨gX, 0, none⟩ = some (.slice (some ⟨gB, 0, none⟩) 1 1) ∧ w'.cell? ⟨gB, 0, none⟩ = some u) (ds := [13]) #[false, false, false, false, false, false, false, false, false, false, false, false, false, false] (by kernel_rfl) rfl rfl ⟨(qq BKX.out 0).trans rfl, (qq BKB.out 0).trans rfl⟩ (fun hHeld => ?_); refine with_tabW many.tab10 many.bits10 (fun HT_ HW_ => ?_)
         generalize wr.drew = w20 at BKB BKX HB HO hHeld ⊢
         refine kg (i := 0) (N := (some 41)) (v := ?_) (a' := ?_) #[true, false, false, false, false, false, false, false, false, false, false, false, false, false] rfl rfl (xo HT_.out (by kernel_rfl)) (fun _ _ _ h => h) (Or.inl ⟨by rfl, ?_⟩) ?_ ?_
         rotate_left
         ·intro w'
          go_simp
          with_reducible rfl
         rotate_left
         ·simp only [Act.put, List.setIfInBounds_toArray, List.set_cons_zero, List.set_cons_succ, zk, zm]
          rfl
         refine kg (i := 2) (N := (some 43)) (v := ?_) (a' := ?_) #[true, false, true, false, false, false, false, false, false, false, false, false, false, false] rfl rfl (xo HT_.out (by kernel_rfl)) (fun _ _ _ h => h) (Or.inl ⟨by rfl, ?_⟩) ?_ ?_
         rotate_left
         ·intro w'
          go_simp
          with_reducible rfl
         rotate_left
         ·simp only [Act.put, List.setIfInBounds_toArray, List.set_cons_zero, List.set_cons_succ, zk, zm]
          rfl
         refine kg (i := 6) (N := (some 47)) (v := ?_) (a' := ?_) #[true, false, true, false, false, false, true, false, false, false, false, false, false, false] rfl rfl (xo HT_.out (by kernel_rfl)) (fun _ _ _ h => h) (Or.inl ⟨by rfl, ?_⟩) ?_ ?_
         rotate_left
         ·intro w'
          go_simp
          with_reducible rfl
         rotate_left
         ·simp only [Act.put, List.setIfInBounds_toArray, List.set_cons_zero, List.set_cons_succ, zk, zm]
          rfl
         refine take_ (i := 1) (N := (some 42)) (v := ?_) (a' := ?_) #[true, true, true, false, false, false, true, false, false, false, false, false, false, false] rfl rfl (kd HT_.out HW_.out (by kernel_rfl)) (fun _ _ _ h => h) (Or.inl ⟨by rfl, ?_⟩) hHeld ?_ ?_
         rotate_left
         ·rintro w' ⟨s0, s1⟩
          go_simp
          with_reducible rfl
         rotate_left
         ·simp only [Act.put, List.setIfInBounds_toArray, List.set_cons_zero, List.set_cons_succ, zk, zm]
          rfl
         refine take_ (i := 3) (N := (some 44)) (v := ?_) (a' := ?_) #[true, true, true, true, false, false, true, false, false, false, false, false, false, false] rfl rfl (kd HT_.out HW_.out (by kernel_rfl)) (fun _ _ _ h => h) (Or.inl ⟨by rfl, ?_⟩) hHeld ?_ ?_
         rotate_left
         ·rintro w' ⟨s0, s1⟩
          go_simp
          with_reducible rfl
         rotate_left
         ·simp only [Act.put, List.setIfInBounds_toArray, List.set_cons_zero, List.set_cons_succ, zk, zm]
          rfl
         refine kg (i := 4) (N := (some 45)) (v := ?_) (a' := ?_) #[true, true, true, true, true, false, true, false, false, false, false, false, false, false] rfl rfl (xo HT_.out (by kernel_rfl)) (fun _ _ _ h => h) (Or.inl ⟨by rfl, ?_⟩) ?_ ?_
         rotate_left
         ·intro w'
          go_simp
          with_reducible rfl
         rotate_left
         ·simp only [Act.put, List.setIfInBounds_toArray, List.set_cons_zero, List.set_cons_succ, zk, zm]
          rfl
         refine take_ (i := 5) (N := (some 46)) (v := ?_) (a' := ?_) #[true, true, true, true, true, true, true, false, false, false, false, false, false, false] rfl rfl (kd HT_.out HW_.out (by kernel_rfl)) (fun _ _ _ h => h) (Or.inl ⟨by rfl, ?_⟩) hHeld ?_ ?_
         rotate_left
         ·rintro w' ⟨s0, s1⟩
          go_simp
          with_reducible rfl
         rotate_left
         ·simp only [Act.put, List.setIfInBounds_toArray, List.set_cons_zero, List.set_cons_succ, zk, zm]
          rfl
         refine one_ (i := 7) (N := (some 48)) #[true, true, true, true, true, true, true, true, false, false, false, false, false, false] rfl rfl (one_of HT_.out (by kernel_rfl)) (by decide) (fun K hK => ?_)
         refine goes_ Tryd.func6 (by kernel_rfl) rfl #[.int .i64 j] (by rfl) rfl rfl (by (try simp only [List.map_toArray, List.map_cons, List.map_nil]); first | done | rfl | (simp only [List.length_drop, List.length_take]; rfl)) ?_
         with_reducible refine (zc.calls k1 j t _ AD.out).mono ?_
         rintro e w21 ⟨rfl, hb⟩
         refine ⟨_, rfl, ?_⟩
         have n0_ := qb.mk (qz BKB.out hb)
         have n1_ := qb.mk (qz BKX.out hb)
         have n2_ := qb.mk (Kd.xw HO.out hb)
         have n3_ := qb.mk (qr HB.out hb)
         clear BKB BKX HO HB
         have BKB := n0_
         have BKX := n1_
         have HO := n2_
         have HB := n3_
         clear n0_ n1_ n2_ n3_ hb
         refine hK.out _ _ ⟨(qq BKX.out 0).trans rfl, (qq BKB.out 0).trans rfl⟩ (fun hHeld => ?_)
         clear hK K
         refine norm_ (a' := ?_) ?_ ?_
         rotate_left
         ·show Act.put _ (some 48) _ = _
          simp only [Act.put, List.setIfInBounds_toArray, List.set_cons_zero, List.set_cons_succ, zk, zm]
          rfl
         refine kg (i := 8) (N := (some 49)) (v := ?_) (a' := ?_) #[true, true, true, true, true, true, true, true, true, false, false, false, false, false] rfl rfl (xo HT_.out (by kernel_rfl)) (fun _ _ _ h => h) (Or.inl ⟨by rfl, ?_⟩) ?_ ?_
         rotate_left
         ·intro w'
          go_simp
          with_reducible rfl
         rotate_left
         ·simp only [Act.put, List.setIfInBounds_toArray, List.set_cons_zero, List.set_cons_succ, zk, zm]
          rfl
         refine kg (i := 9) (N := (some 50)) (v := ?_) (a' := ?_) #[true, true, true, true, true, true, true, true, true, true, false, false, false, false] rfl rfl (xo HT_.out (by kernel_rfl)) (fun _ _ _ h => h) (Or.inl ⟨by rfl, ?_⟩) ?_ ?_
         rotate_left
         ·intro w'
          go_simp
          with_reducible rfl
         rotate_left
         ·simp only [Act.put, List.setIfInBounds_toArray, List.set_cons_zero, List.set_cons_succ, zk, zm]
          rfl
         refine one_ (i := 10) (N := (some 51)) #[true, true, true, true, true, true, true, true, true, true, true, false, false, false] rfl rfl (one_of HT_.out (by kernel_rfl)) (by decide) (fun K hK => ?_)
         refine value_ (w1 := ?_) (v := ?_) (by rfl) rfl ?_ ?_
         rotate_left 2
         ·go_simp
          constructor
          ·rfl
          ·rfl
         refine hK.out _ _ ⟨(qq (qg BKX.out _) 0).trans rfl, (qq (qg BKB.out _) 0).trans rfl⟩ (fun hHeld => ?_)
         clear hK K
         refine norm_ (a' := ?_) ?_ ?_
         rotate_left
         ·show Act.put _ (some 51) _ = _
          simp only [Act.put, List.setIfInBounds_toArray, List.set_cons_zero, List.set_cons_succ, zk, zm]
          rfl
         refine one_ (i := 11) (N := (some 52)) #[true, true, true, true, true, true, true, true, true, true, true, true, false, false] rfl rfl (one_of HT_.out (by kernel_rfl)) (by decide) (fun K hK => ?_)
         refine Kd.R_append_step k26 (w0 := W1) W1.heap.size (by rfl) (.tmp 46) (.tmp 51) 27 26 (.agg #[(.string ⟨#[]⟩), (.int .i64 0), (.string ⟨#[]⟩)]) 40 rfl Tryd.underlying27 info26 rfl (by decide) (by omega) u ys (⟨(⟨#[50, 46, 53, 46, 52, 46]⟩ : ByteArray) ++ t, 12, (⟨#[121]⟩ : ByteArray)⟩ : S26) [.string ((⟨#[50, 46, 53, 46, 52, 46]⟩ : ByteArray) ++ t), .int .i64 12, .string (⟨#[121]⟩ : ByteArray)] (fun _ => True) (fun _ => False) rfl (by first | (go_simp; done) | (go_simp; rfl)) ?aP (fun _ hk => hk.elim) (fun _ _ => trivial) HO.out HB.out (qt HB.out) (by have := LM.out; omega) ?_
         case aP => exact k26_mkM _ _ _ (⟨(⟨#[50, 46, 53, 46, 52, 46]⟩ : ByteArray) ++ t, 12, (⟨#[121]⟩ : ByteArray)⟩ : S26)
         intro v1 w22 ho hb hg ho'
         obtain ⟨ys1, hys1⟩ : ∃ y, y = (ys ++ [(⟨(⟨#[50, 46, 53, 46, 52, 46]⟩ : ByteArray) ++ t, 12, (⟨#[121]⟩ : ByteArray)⟩ : S26)]) := ⟨_, rfl⟩
         rw [← hys1] at ho
         have NYS := qb.mk hys1
         clear hys1
         obtain ⟨A1, c1, rfl⟩ := Kd.kc ho
         have n0_ := qb.mk (blk_grown BKB.out hg (Kd.R_ne HO.out BKB.out (by decide)))
         have n1_ := qb.mk (blk_grown BKX.out hg (Kd.R_ne HO.out BKX.out (by decide)))
         clear BKB BKX HO HB
         have BKB := n0_
         have BKX := n1_
         have HO := qb.mk ho
         have HB := qb.mk hb
         clear n0_ n1_ ho hb hg ho'
         refine hK.out _ _ ⟨(qq BKX.out 0).trans rfl, (qq BKB.out 0).trans rfl⟩ (fun hHeld => ?_)
         clear hK K
         refine norm_ (a' := ?_) ?_ ?_
         rotate_left
         ·show Act.put _ (some 52) _ = _
          simp only [Act.put, List.setIfInBounds_toArray, List.set_cons_zero, List.set_cons_succ, zk, zm]
          rfl
         refine kg (i := 12) (N := (some 53)) (v := ?_) (a' := ?_) #[true, true, true, true, true, true, true, true, true, true, true, true, true, false] rfl rfl (xo HT_.out (by kernel_rfl)) (fun _ _ _ h => h) (Or.inl ⟨by rfl, ?_⟩) ?_ ?_
         rotate_left
         ·intro w'
          go_simp
          with_reducible rfl
         rotate_left
         ·simp only [Act.put, List.setIfInBounds_toArray, List.set_cons_zero, List.set_cons_succ, zk, zm]
          rfl
         refine last_ (i := 13) (N := none) #[true, true, true, true, true, true, true, true, true, true, true, true, true, true] rfl rfl (one_of HT_.out (by kernel_rfl)) (by decide) (fun K hK => ?_)
         have hcz : w22.cell? ⟨gB, 0, none⟩ = some u := (qq BKB.out 0).trans rfl
         have hfz := qo BKB.out 0
         refine skip_ (by rfl) rfl (w1 := w22.setCell ⟨gB, 0, none⟩ (.slice A1 ys1.length c1)) ?_ ?_
         ·go_simp
         refine hK.out _ _ ?_
         clear hK K
         refine done_ (done_of HT_.out (by kernel_rfl)) ?_
         go_wp2
         go_roundg k1
         case measure => have := HK2.out; omega
         case rel => exact ⟨_, ys1, _, rfl, (by rw [NYS.out]; exact H'), ⟨by have := HK2.out; omega⟩, ⟨Kd.xp (Kd.R_far (Kd.R_types HO.out BKB.out (by decide)) (fun _ hk => hk.2) _) (fun _ _ => trivial)⟩, ⟨zj BKB.out 0 (.slice A1 ys1.length c1) rfl⟩, ⟨xl BKX.out (fun h => by have h2 := BKB.out; have h3 := BKX.out; rw [h, h2] at h3; injection h3 with h3; injection h3 with _ h4; exact absurd h4 (by decide)) _⟩, ⟨(qh HB.out GB.out : Below W1.heap.size W1 (w22.setCell ⟨gB, 0, none⟩ (.slice A1 ys1.length c1)))⟩⟩
        ·rw [if_neg c8] at H
         exact absurd H (by simp)
       ·rw [if_neg c7] at H
        exact absurd H (by simp)
      ·rw [if_neg c6] at H
       have c6b0 : decide (j < (wrap64 (Int.tmod a1 7))) = false := decide_eq_false c6
       clear c6
       obtain rfl := Option.some.inj H
       obtain ⟨Am, cm, rfl⟩ := Kd.kc HO.out
       have HM0 := Kd.xr HO.out
       have HM := qb.mk (fun W' (hW : Below wr.heap.size wr W') => C_one (qz BKB.out hW) (Kd.ka HM0.2.2 hW) HM0.2.1)
       have BKN := qb.mk (qz (by simpa using BK254.out) HB.out)
       clear HM0 H1
       rename World => W3
       have HB3 := HB
       clear HB
       go_wp2
       go_loopg [11, 12] k (fun kq v11 v12 w' => ∃ (j : Int) (s : ByteArray), v11 = .string s ∧ v12 = .int .i64 j ∧ qb (many2 kq a2 j s = some v) ∧ qb (kq ≤ k) ∧ qb (Below W3.heap.size W3 w'))
       case atStart => exact ⟨0, _, rfl, rfl, H2, ⟨Nat.le_refl _⟩, ⟨Below.refl _ _⟩⟩
       case round =>
        obtain ⟨j, s, rfl, rfl, HA, HK3, HB⟩ := hrel
        cases gk with
        | zero => exact absurd HA.out (by simp [many2])
        | succ k1 =>
         have H := HA.out
         clear HA
         simp only [many2] at H
         by_cases c6 : j < (wrap64 (60 + (wrap64 (Int.tmod a2 8))))
         ·rw [if_pos c6] at H
          have c6b0 : decide (j < (wrap64 (60 + (wrap64 (Int.tmod a2 8))))) = true := decide_eq_true c6
          clear c6
          by_cases c7 : s.size + (⟨#[122]⟩ : ByteArray).size ≤ 9223372036854775807
          ·rw [if_pos c7] at H
           have c7b2 : (9223372036854775807 < s.size + 1) = False := eq_false (Nat.not_lt.2 c7)
           have H' := qb.mk H
           clear H
           go_wp2
           go_roundg k1
           case measure => have := HK3.out; omega
           case rel => exact ⟨_, _, rfl, rfl, H', ⟨by have := HK3.out; omega⟩, HB⟩
          ·rw [if_neg c7] at H
           exact absurd H (by simp)
         ·rw [if_neg c6] at H
          have c6b0 : decide (j < (wrap64 (60 + (wrap64 (Int.tmod a2 8))))) = false := decide_eq_false c6
          clear c6
          obtain rfl := Option.some.inj H
          have BKN4 := qb.mk (qz BKN.out HB.out)
          have BKX4 := qb.mk (qz BKX.out HB.out)
          rename World => W4
          go_upto_region 17 with (fail)
          obtain ⟨W5, hW5⟩ : ∃ W, W = (((W4.alloc (Obj.cells #[Value.string { data := #[50, 46, 53, 46, 52, 46, 49, 49] }, Value.int IntKind.i64 22, Value.string s] 26)).alloc (Obj.cells #[Value.slice (some { block := W4.heap.size, off := 0 }) 1 1] 27)).alloc (Obj.cells #[Value.slice (some { block := W4.heap.size + 1, off := 0 }) 1 1] 24)) := ⟨_, rfl⟩
          rw [← hW5]
          have HW5 := qb.mk (show Below W4.heap.size W4 W5 by rw [hW5]; exact qc (qc (qc (Below.refl _ _) _) _) _)
          have b0 := qb.mk (show W5.heap[W4.heap.size]? = some (.cells #[.string ⟨#[50, 46, 53, 46, 52, 46, 49, 49]⟩, .int .i64 22, .string s] 26 (0, 0)) by rw [hW5]; exact qg (qg (heap_alloc_new W4 _) _) _)
          have b1 := qb.mk (show W5.heap[W4.heap.size + 1]? = some (.cells #[.slice (some ⟨W4.heap.size, 0, none⟩) 1 1] 27 (0, 0)) by rw [hW5]; exact qg (by simpa using heap_alloc_new (W4.alloc (Obj.cells #[Value.string { data := #[50, 46, 53, 46, 52, 46, 49, 49] }, Value.int IntKind.i64 22, Value.string s] 26)) (Obj.cells #[Value.slice (some { block := W4.heap.size, off := 0 }) 1 1] 27)) _)
          have BKO := qb.mk (show W5.heap[W4.heap.size + 1 + 1]? = some (.cells #[.slice (some ⟨W4.heap.size + 1, 0, none⟩) 1 1] 24 (0, 0)) by rw [hW5]; simpa using heap_alloc_new ((W4.alloc (Obj.cells #[Value.string { data := #[50, 46, 53, 46, 52, 46, 49, 49] }, Value.int IntKind.i64 22, Value.string s] 26)).alloc (Obj.cells #[Value.slice (some { block := W4.heap.size, off := 0 }) 1 1] 27)) (Obj.cells #[Value.slice (some { block := W4.heap.size + 1, off := 0 }) 1 1] 24))
          clear hW5
          have BKN5 := qb.mk (qz BKN4.out HW5.out)
          have BKX5 := qb.mk (qz BKX4.out HW5.out)
          generalize W4.heap.size + 1 + 1 = gO at BKO ⊢
          generalize W4.heap.size + 1 = gR at b1 BKO ⊢
          have hcz1 : W5.cell? ⟨gb254, 0, none⟩ = some (.slice An x255000_1.length cn) := (qq BKN5.out 0).trans rfl
          have hcz2 : W5.cell? ⟨gX, 0, none⟩ = some (.slice (some ⟨gB, 0, none⟩) 1 1) := (qq BKX5.out 0).trans rfl
          have hcz3 : W5.cell? ⟨gO, 0, none⟩ = some (.slice (some ⟨gR, 0, none⟩) 1 1) := (qq BKO.out 0).trans rfl
          have HB5 := qb.mk (qr HB.out HW5.out)
          clear HB
          go_wp2
          obtain ⟨W6, hW6⟩ : ∃ W, W = W5.alloc (Obj.cells #[Value.slice An x255000_1.length cn, Value.slice (some ⟨gB, 0, none⟩) 1 1, Value.slice (some ⟨gR, 0, none⟩) 1 1] 24) := ⟨_, rfl⟩
          rw [← hW6]
          have HW56 := qb.mk (show Below W5.heap.size W5 W6 by rw [hW6]; exact qc (Below.refl _ _) _)
          have BL := qb.mk (show W6.heap[W5.heap.size]? = some (.cells #[.slice An x255000_1.length cn, .slice (some ⟨gB, 0, none⟩) 1 1, .slice (some ⟨gR, 0, none⟩) 1 1] 24 (0, 0)) by rw [hW6]; exact heap_alloc_new _ _)
          clear hW6 hcz1 hcz2 hcz3
          have HW36 := qb.mk (qr HB5.out HW56.out)
          have HW6 := qb.mk (qr HB3.out HW36.out)
          have b0' := qb.mk (qz b0.out HW56.out)
          have b1' := qb.mk (qz b1.out HW56.out)
          have HOo := qb.mk (fun W' (hW : Below W6.heap.size W6 W') => C_one (xs := [(⟨(⟨#[50, 46, 53, 46, 52, 46, 49, 49]⟩ : ByteArray), 22, s⟩ : S26)]) (c := 1) (qz b1'.out hW) (C_att (x := ⟨(⟨#[50, 46, 53, 46, 52, 46, 49, 49]⟩ : ByteArray), 22, s⟩) (qz b0'.out hW)) (Nat.le_refl 1))
          clear b0 b1 b0' b1'
          generalize W5.heap.size = gL at BL ⊢
          go_loopg [74] 3 (fun kq v74 w' => ∃ i : Int, v74 = .int .i64 i ∧ qb (i = 3 - kq) ∧ qb (kq ≤ 3) ∧ qb (Below W6.heap.size W6 w'))
          case atStart => exact ⟨0, rfl, ⟨by omega⟩, ⟨Nat.le_refl _⟩, ⟨Below.refl _ _⟩⟩
          case round =>
           obtain ⟨i, rfl, hi, hk3, HB⟩ := hrel
           have BLr := qb.mk (qz BL.out HB.out)
           match gk, hi, hk3 with
           | 0, hi, hk3 =>
            obtain rfl : i = 3 := by have := hi.out; omega
            clear hi hk3
            go_wp2_with (go_at_call 9; refine (zo.calls k true _ (LibHeld.below HG.out (qr HBr.out (qr HW6.out HB.out))) HAw.out).mono ?_; rintro e_ w21 ⟨rfl, hb⟩; replace HB := qb.mk (qr HB.out hb); clear hb)
            go_ret
            exact ⟨rfl, qr HBr.out (qr HW6.out HB.out)⟩
           | 3, hi, hk3 =>
            obtain rfl : i = 0 := by have := hi.out; omega
            clear hi hk3
            have hcz : wr.cell? ⟨gL, 0, none⟩ = some (.slice An x255000_1.length cn) := (qq BLr.out 0).trans rfl
            go_upto_region 20 with (fail)
            obtain ⟨gP, hgP⟩ : ∃ g, g = wr.heap.size := ⟨_, rfl⟩
            obtain ⟨W7, hW7⟩ : ∃ W, W = wr.alloc (Obj.cells #[Value.slice An x255000_1.length cn] 24) := ⟨_, rfl⟩
            rw [← hW7, ← hgP]
            replace HB := qb.mk (show Below W6.heap.size W6 W7 by rw [hW7]; exact qc HB.out _)
            have BKP := qb.mk (show W7.heap[gP]? = some (Obj.cells #[Value.slice An x255000_1.length cn] 24) by rw [hW7, hgP]; exact heap_alloc_new _ _)
            clear hW7 hgP
            replace HB := qb.mk (qd HB.out)
            replace BKP := qb.mk (ql BKP.out)
            refine start_ (n := 5) (S := fun w' => w'.cell? ⟨gP, 0, none⟩ = some (.slice An x255000_1.length cn)) (ds := []) #[false, false, false, false, false] (by kernel_rfl) rfl rfl ((qq BKP.out 0).trans rfl) (fun hHeld => ?_); refine with_tabW many.tab20 many.bits20 (fun HT_ HW_ => ?_)
            generalize W7.drew = w20 at BKP HB hHeld ⊢
            refine take_ (i := 0) (N := (some 78)) (v := ?_) (a' := ?_) #[true, false, false, false, false] rfl rfl (kd HT_.out HW_.out (by kernel_rfl)) (fun _ _ _ h => h) (Or.inl ⟨by rfl, ?_⟩) hHeld ?_ ?_
            rotate_left
            ·rintro w' s0
             go_simp
             with_reducible rfl
            rotate_left
            ·simp only [Act.put, List.setIfInBounds_toArray, List.set_cons_zero, List.set_cons_succ, zk, zm]
             rfl
            refine take_ (i := 2) (N := (some 80)) (v := ?_) (a' := ?_) #[true, false, true, false, false] rfl rfl (kd HT_.out HW_.out (by kernel_rfl)) (fun _ _ _ h => h) (Or.inl ⟨by rfl, ?_⟩) hHeld ?_ ?_
            rotate_left
            ·rintro w' s0
             go_simp
             with_reducible rfl
            rotate_left
            ·simp only [Act.put, List.setIfInBounds_toArray, List.set_cons_zero, List.set_cons_succ, zk, zm]
             rfl
            refine one_ (i := 1) (N := (some 79)) #[true, true, true, false, false] rfl rfl (one_of HT_.out (by kernel_rfl)) (by decide) (fun K hK => ?_)
            refine goes_ Tryd.func7 (by kernel_rfl) rfl #[.agg #[.slice An x255000_1.length cn]] (by rfl) rfl rfl (by (try simp only [List.map_toArray, List.map_cons, List.map_nil]); first | done | rfl | (simp only [List.length_drop, List.length_take]; rfl)) ?_
            refine (zd.calls k _ _ x255000_1 e1 _ (LibHeld.below HG.out (qr HBr.out (qr HW6.out HB.out))) (HN.out _ (qr HW6.out HB.out)) hcn.out HNn.out.1).mono ?_
            rintro e_ w21 ⟨rfl, hb⟩
            refine ⟨_, rfl, ?_⟩
            replace BKP := qb.mk (qz BKP.out hb)
            replace HB := qb.mk (qr HB.out hb)
            clear hb
            refine hK.out _ _ ((qq BKP.out 0).trans rfl) (fun hHeld => ?_)
            clear hK K
            refine norm_ (a' := ?_) ?_ ?_
            rotate_left
            ·show Act.put _ (some 79) _ = _
             simp only [Act.put, List.setIfInBounds_toArray, List.set_cons_zero, List.set_cons_succ, zk, zm]
             rfl
            refine one_ (i := 3) (N := (some 81)) #[true, true, true, true, false] rfl rfl (one_of HT_.out (by kernel_rfl)) (by decide) (fun K hK => ?_)
            refine goes_ Tryd.func8 (by kernel_rfl) rfl #[.agg #[.slice An x255000_1.length cn]] (by rfl) rfl rfl (by (try simp only [List.map_toArray, List.map_cons, List.map_nil]); first | done | rfl | (simp only [List.length_drop, List.length_take]; rfl)) ?_
            refine (qy.calls k _ _ x255000_1 e1 _ (HN.out _ (qr HW6.out HB.out)) hcn.out HNn.out.2).mono ?_
            rintro e_ w22 ⟨rfl, hb⟩
            refine ⟨_, rfl, ?_⟩
            replace BKP := qb.mk (qz BKP.out hb)
            replace HB := qb.mk (qr HB.out hb)
            clear hb
            refine hK.out _ _ ((qq BKP.out 0).trans rfl) (fun hHeld => ?_)
            clear hK K
            refine norm_ (a' := ?_) ?_ ?_
            rotate_left
            ·show Act.put _ (some 81) _ = _
             simp only [Act.put, List.setIfInBounds_toArray, List.set_cons_zero, List.set_cons_succ, zk, zm]
             rfl
            refine kg (i := 4) (N := (some 82)) (v := ?_) (a' := ?_) #[true, true, true, true, true] rfl rfl (xo HT_.out (by kernel_rfl)) (fun _ _ _ h => h) (Or.inl ⟨by rfl, ?_⟩) ?_ ?_
            rotate_left
            ·intro w'
             go_simp
             with_reducible rfl
            rotate_left
            ·simp only [Act.put, List.setIfInBounds_toArray, List.set_cons_zero, List.set_cons_succ, zk, zm]
             rfl
            refine done_ (done_of HT_.out (by kernel_rfl)) ?_
            go_wp2
            go_roundg 2
            case measure => omega
            case rel => exact ⟨1, rfl, ⟨by omega⟩, ⟨by omega⟩, HB⟩
           | 2, hi, hk3 =>
            obtain rfl : i = 1 := by have := hi.out; omega
            clear hi hk3
            have hcz : wr.cell? ⟨gL, 1, none⟩ = some (.slice (some ⟨gB, 0, none⟩) 1 1) := (qq BLr.out 1).trans rfl
            go_upto_region 20 with (fail)
            obtain ⟨gP, hgP⟩ : ∃ g, g = wr.heap.size := ⟨_, rfl⟩
            obtain ⟨W7, hW7⟩ : ∃ W, W = wr.alloc (Obj.cells #[Value.slice (some ⟨gB, 0, none⟩) 1 1] 24) := ⟨_, rfl⟩
            rw [← hW7, ← hgP]
            replace HB := qb.mk (show Below W6.heap.size W6 W7 by rw [hW7]; exact qc HB.out _)
            have BKP := qb.mk (show W7.heap[gP]? = some (Obj.cells #[Value.slice (some ⟨gB, 0, none⟩) 1 1] 24) by rw [hW7, hgP]; exact heap_alloc_new _ _)
            clear hW7 hgP
            replace HB := qb.mk (qd HB.out)
            replace BKP := qb.mk (ql BKP.out)
            refine start_ (n := 5) (S := fun w' => w'.cell? ⟨gP, 0, none⟩ = some (.slice (some ⟨gB, 0, none⟩) 1 1)) (ds := []) #[false, false, false, false, false] (by kernel_rfl) rfl rfl ((qq BKP.out 0).trans rfl) (fun hHeld => ?_); refine with_tabW many.tab20 many.bits20 (fun HT_ HW_ => ?_)
            generalize W7.drew = w20 at BKP HB hHeld ⊢
            refine take_ (i := 0) (N := (some 78)) (v := ?_) (a' := ?_) #[true, false, false, false, false] rfl rfl (kd HT_.out HW_.out (by kernel_rfl)) (fun _ _ _ h => h) (Or.inl ⟨by rfl, ?_⟩) hHeld ?_ ?_
            rotate_left
            ·rintro w' s0
             go_simp
             with_reducible rfl
            rotate_left
            ·simp only [Act.put, List.setIfInBounds_toArray, List.set_cons_zero, List.set_cons_succ, zk, zm]
             rfl
            refine take_ (i := 2) (N := (some 80)) (v := ?_) (a' := ?_) #[true, false, true, false, false] rfl rfl (kd HT_.out HW_.out (by kernel_rfl)) (fun _ _ _ h => h) (Or.inl ⟨by rfl, ?_⟩) hHeld ?_ ?_
            rotate_left
            ·rintro w' s0
             go_simp
             with_reducible rfl
            rotate_left
            ·simp only [Act.put, List.setIfInBounds_toArray, List.set_cons_zero, List.set_cons_succ, zk, zm]
             rfl
            refine one_ (i := 1) (N := (some 79)) #[true, true, true, false, false] rfl rfl (one_of HT_.out (by kernel_rfl)) (by decide) (fun K hK => ?_)
            refine goes_ Tryd.func7 (by kernel_rfl) rfl #[.agg #[.slice (some ⟨gB, 0, none⟩) 1 1]] (by rfl) rfl rfl (by (try simp only [List.map_toArray, List.map_cons, List.map_nil]); first | done | rfl | (simp only [List.length_drop, List.length_take]; rfl)) ?_
            refine (zd.calls k _ _ [ys] e2 _ (LibHeld.below HG.out (qr HBr.out (qr HW6.out HB.out))) (HM.out _ (qr HW36.out HB.out)) (Nat.le_refl 1) HNm.out.1).mono ?_
            rintro e_ w21 ⟨rfl, hb⟩
            refine ⟨_, rfl, ?_⟩
            replace BKP := qb.mk (qz BKP.out hb)
            replace HB := qb.mk (qr HB.out hb)
            clear hb
            refine hK.out _ _ ((qq BKP.out 0).trans rfl) (fun hHeld => ?_)
            clear hK K
            refine norm_ (a' := ?_) ?_ ?_
            rotate_left
            ·show Act.put _ (some 79) _ = _
             simp only [Act.put, List.setIfInBounds_toArray, List.set_cons_zero, List.set_cons_succ, zk, zm]
             rfl
            refine one_ (i := 3) (N := (some 81)) #[true, true, true, true, false] rfl rfl (one_of HT_.out (by kernel_rfl)) (by decide) (fun K hK => ?_)
            refine goes_ Tryd.func8 (by kernel_rfl) rfl #[.agg #[.slice (some ⟨gB, 0, none⟩) 1 1]] (by rfl) rfl rfl (by (try simp only [List.map_toArray, List.map_cons, List.map_nil]); first | done | rfl | (simp only [List.length_drop, List.length_take]; rfl)) ?_
            refine (qy.calls k _ _ [ys] e2 _ (HM.out _ (qr HW36.out HB.out)) (Nat.le_refl 1) HNm.out.2).mono ?_
            rintro e_ w22 ⟨rfl, hb⟩
            refine ⟨_, rfl, ?_⟩
            replace BKP := qb.mk (qz BKP.out hb)
            replace HB := qb.mk (qr HB.out hb)
            clear hb
            refine hK.out _ _ ((qq BKP.out 0).trans rfl) (fun hHeld => ?_)
            clear hK K
            refine norm_ (a' := ?_) ?_ ?_
            rotate_left
            ·show Act.put _ (some 81) _ = _
             simp only [Act.put, List.setIfInBounds_toArray, List.set_cons_zero, List.set_cons_succ, zk, zm]
             rfl
            refine kg (i := 4) (N := (some 82)) (v := ?_) (a' := ?_) #[true, true, true, true, true] rfl rfl (xo HT_.out (by kernel_rfl)) (fun _ _ _ h => h) (Or.inl ⟨by rfl, ?_⟩) ?_ ?_
            rotate_left
            ·intro w'
             go_simp
             with_reducible rfl
            rotate_left
            ·simp only [Act.put, List.setIfInBounds_toArray, List.set_cons_zero, List.set_cons_succ, zk, zm]
             rfl
            refine done_ (done_of HT_.out (by kernel_rfl)) ?_
            go_wp2
            go_roundg 1
            case measure => omega
            case rel => exact ⟨2, rfl, ⟨by omega⟩, ⟨by omega⟩, HB⟩
           | 1, hi, hk3 =>
            obtain rfl : i = 2 := by have := hi.out; omega
            clear hi hk3
            have hcz : wr.cell? ⟨gL, 2, none⟩ = some (.slice (some ⟨gR, 0, none⟩) 1 1) := (qq BLr.out 2).trans rfl
            go_upto_region 20 with (fail)
            obtain ⟨gP, hgP⟩ : ∃ g, g = wr.heap.size := ⟨_, rfl⟩
            obtain ⟨W7, hW7⟩ : ∃ W, W = wr.alloc (Obj.cells #[Value.slice (some ⟨gR, 0, none⟩) 1 1] 24) := ⟨_, rfl⟩
            rw [← hW7, ← hgP]
            replace HB := qb.mk (show Below W6.heap.size W6 W7 by rw [hW7]; exact qc HB.out _)
            have BKP := qb.mk (show W7.heap[gP]? = some (Obj.cells #[Value.slice (some ⟨gR, 0, none⟩) 1 1] 24) by rw [hW7, hgP]; exact heap_alloc_new _ _)
            clear hW7 hgP
            replace HB := qb.mk (qd HB.out)
            replace BKP := qb.mk (ql BKP.out)
            refine start_ (n := 5) (S := fun w' => w'.cell? ⟨gP, 0, none⟩ = some (.slice (some ⟨gR, 0, none⟩) 1 1)) (ds := []) #[false, false, false, false, false] (by kernel_rfl) rfl rfl ((qq BKP.out 0).trans rfl) (fun hHeld => ?_); refine with_tabW many.tab20 many.bits20 (fun HT_ HW_ => ?_)
            generalize W7.drew = w20 at BKP HB hHeld ⊢
            refine take_ (i := 0) (N := (some 78)) (v := ?_) (a' := ?_) #[true, false, false, false, false] rfl rfl (kd HT_.out HW_.out (by kernel_rfl)) (fun _ _ _ h => h) (Or.inl ⟨by rfl, ?_⟩) hHeld ?_ ?_
            rotate_left
            ·rintro w' s0
             go_simp
             with_reducible rfl
            rotate_left
            ·simp only [Act.put, List.setIfInBounds_toArray, List.set_cons_zero, List.set_cons_succ, zk, zm]
             rfl
            refine take_ (i := 2) (N := (some 80)) (v := ?_) (a' := ?_) #[true, false, true, false, false] rfl rfl (kd HT_.out HW_.out (by kernel_rfl)) (fun _ _ _ h => h) (Or.inl ⟨by rfl, ?_⟩) hHeld ?_ ?_
            rotate_left
            ·rintro w' s0
             go_simp
             with_reducible rfl
            rotate_left
            ·simp only [Act.put, List.setIfInBounds_toArray, List.set_cons_zero, List.set_cons_succ, zk, zm]
             rfl
            refine one_ (i := 1) (N := (some 79)) #[true, true, true, false, false] rfl rfl (one_of HT_.out (by kernel_rfl)) (by decide) (fun K hK => ?_)
            refine goes_ Tryd.func7 (by kernel_rfl) rfl #[.agg #[.slice (some ⟨gR, 0, none⟩) 1 1]] (by rfl) rfl rfl (by (try simp only [List.map_toArray, List.map_cons, List.map_nil]); first | done | rfl | (simp only [List.length_drop, List.length_take]; rfl)) ?_
            refine (zd.calls k _ _ [[(⟨(⟨#[50, 46, 53, 46, 52, 46, 49, 49]⟩ : ByteArray), 22, s⟩ : S26)]] e3 _ (LibHeld.below HG.out (qr HBr.out (qr HW6.out HB.out))) (HOo.out _ HB.out) (Nat.le_refl 1) HNo.out.1).mono ?_
            rintro e_ w21 ⟨rfl, hb⟩
            refine ⟨_, rfl, ?_⟩
            replace BKP := qb.mk (qz BKP.out hb)
            replace HB := qb.mk (qr HB.out hb)
            clear hb
            refine hK.out _ _ ((qq BKP.out 0).trans rfl) (fun hHeld => ?_)
            clear hK K
            refine norm_ (a' := ?_) ?_ ?_
            rotate_left
            ·show Act.put _ (some 79) _ = _
             simp only [Act.put, List.setIfInBounds_toArray, List.set_cons_zero, List.set_cons_succ, zk, zm]
             rfl
            refine one_ (i := 3) (N := (some 81)) #[true, true, true, true, false] rfl rfl (one_of HT_.out (by kernel_rfl)) (by decide) (fun K hK => ?_)
            refine goes_ Tryd.func8 (by kernel_rfl) rfl #[.agg #[.slice (some ⟨gR, 0, none⟩) 1 1]] (by rfl) rfl rfl (by (try simp only [List.map_toArray, List.map_cons, List.map_nil]); first | done | rfl | (simp only [List.length_drop, List.length_take]; rfl)) ?_
            refine (qy.calls k _ _ [[(⟨(⟨#[50, 46, 53, 46, 52, 46, 49, 49]⟩ : ByteArray), 22, s⟩ : S26)]] e3 _ (HOo.out _ HB.out) (Nat.le_refl 1) HNo.out.2).mono ?_
            rintro e_ w22 ⟨rfl, hb⟩
            refine ⟨_, rfl, ?_⟩
            replace BKP := qb.mk (qz BKP.out hb)
            replace HB := qb.mk (qr HB.out hb)
            clear hb
            refine hK.out _ _ ((qq BKP.out 0).trans rfl) (fun hHeld => ?_)
            clear hK K
            refine norm_ (a' := ?_) ?_ ?_
            rotate_left
            ·show Act.put _ (some 81) _ = _
             simp only [Act.put, List.setIfInBounds_toArray, List.set_cons_zero, List.set_cons_succ, zk, zm]
             rfl
            refine kg (i := 4) (N := (some 82)) (v := ?_) (a' := ?_) #[true, true, true, true, true] rfl rfl (xo HT_.out (by kernel_rfl)) (fun _ _ _ h => h) (Or.inl ⟨by rfl, ?_⟩) ?_ ?_
            rotate_left
            ·intro w'
             go_simp
             with_reducible rfl
            rotate_left
            ·simp only [Act.put, List.setIfInBounds_toArray, List.set_cons_zero, List.set_cons_succ, zk, zm]
             rfl
            refine done_ (done_of HT_.out (by kernel_rfl)) ?_
            go_wp2
            go_roundg 0
            case measure => omega
            case rel => exact ⟨3, rfl, ⟨by omega⟩, ⟨by omega⟩, HB⟩
           | n + 4, hi, hk3 => exact absurd hk3.out (by omega)
def xu.Pure : Prop := ∀ (a0 a1 a2 : Int), (Lit.int .u8 a0).wf = true → (Lit.int .u8 a1).wf = true → (Lit.int .u8 a2).wf = true →
  ∃ (k : Nat) (r : List (List S26)) (m : List S26) (v : ByteArray) (e1 e2 e3 : Int), many0 k a0 0 [] = some r ∧ many1 k a1 0 [] = some m ∧ many2 k a2 0 (⟨#[]⟩ : ByteArray) = some v ∧ (zd.f k r = some e1 ∧ qy.f k r = some e1) ∧ (zd.f k [m] = some e2 ∧ qy.f k [m] = some e2) ∧ (zd.f k [[(⟨(⟨#[50, 46, 53, 46, 52, 46, 49, 49]⟩ : ByteArray), 22, v⟩ : S26)]] = some e3 ∧ qy.f k [[(⟨(⟨#[50, 46, 53, 46, 52, 46, 49, 49]⟩ : ByteArray), 22, v⟩ : S26)]] = some e3) ∧ zo.f k = some true
theorem xu.walk (P : xu.Pure) (a0 a1 a2 : Int) (w : World) (hG : LibHeld w) (w0 : (Lit.int .u8 a0).wf = true) (w1 : (Lit.int .u8 a1).wf = true) (w2 : (Lit.int .u8 a2).wf = true) :
  Calls Tryd.prog 3 #[.int .u8 a0, .int .u8 a1, .int .u8 a2] w fun e w' => e = .returned (.bool true) ∧ Below w.heap.size w w' := by
 obtain ⟨k, r, m, v, e1, e2, e3, h0, h1, h2, h3, h4, h5, h6⟩ := P a0 a1 a2 w0 w1 w2
 exact many_calls k a0 a1 a2 r m v e1 e2 e3 w hG h0 h1 h2 h3 h4 h5 h6
end Go.Proofs.YtjhlinifnjoefaaDoor.C
end
section
namespace Go.Proofs.YtjhlinifnjoefaaDoor.Pl
open Go.RowKit Go.Proofs.YtjhlinifnjoefaaDoorW.PrintWords Go.Proofs.YtjhlinifnjoefaaDoor.C
set_option linter.unusedSimpArgs false
set_option linter.unusedVariables false
set_option maxRecDepth 100000
theorem many0_ev (x0 : Int) (c : Nat) (hc : wrap64 (5 + wrap64 (Int.tmod x0 6)) = c) (hc1 : c < 1000) : ∀ (d i : Nat) (l : List (List S26)), i + d = c → l.length = i → (∀ p ∈ l, Fit p) → ∃ r, Ev (fun k => many0 k x0 i l) r ∧ ∀ p ∈ r, Fit p
 | 0, i, l, h, hl, hf => ⟨l, Ev.step (fun k => by rw [many0]) (by rw [hc]; exact Ev.neg (by omega) (Ev.now _)), hf⟩
 | d + 1, i, l, h, hl, hf => by
  obtain ⟨r, hr, hp⟩ := many0_ev x0 c hc hc1 d (i + 1) (l ++ [[(⟨(⟨#[50, 46, 53, 46, 52, 46, 51]⟩ : ByteArray), 19, (⟨#[120]⟩ : ByteArray)⟩ : S26)]]) (by omega) (by simp [hl]) (fun p h => by
   rcases List.mem_append.1 h with h | h
   ·exact hf p h
   ·obtain rfl := List.mem_singleton.1 h
    intro a ha
    obtain rfl := List.mem_singleton.1 ha
    exact ⟨by decide, by decide⟩)
  refine ⟨r, ?_, hp⟩
  refine Ev.step (fun k => by rw [many0]) ?_
  rw [hc, w64 (n := (i : Int) + 1) (by omega) (by omega)]
  exact Ev.pos (by omega) (Ev.pos (by omega) (by simpa using hr))
theorem dec_small (i : Nat) (h : i < 10) : ∃ t, Ev (fun k => zc.f k i) t ∧ t.size < 100 := by
 refine ⟨_, Ev.step (fun k => by rw [zc.f]) (Ev.pos (by omega) (Ev.now _)), ?_⟩
 exact Nat.lt_of_le_of_lt (by simp [strOfNums, ByteArray.size] : _ ≤ 1) (by decide)
theorem many1_ev (x1 : Int) (c : Nat) (hc : wrap64 (Int.tmod x1 7) = c) (hc1 : c < 10) : ∀ (d i : Nat) (l : List S26), i + d = c → l.length = i → Fit l → ∃ r, Ev (fun k => many1 k x1 i l) r ∧ Fit r
 | 0, i, l, h, hl, hf => ⟨l, Ev.step (fun k => by rw [many1]) (by rw [hc]; exact Ev.neg (by omega) (Ev.now _)), hf⟩
 | d + 1, i, l, h, hl, hf => by
  obtain ⟨t, ht, hs⟩ := dec_small i (by omega)
  have h6 : (⟨#[50, 46, 53, 46, 52, 46]⟩ : ByteArray).size = 6 := by decide
  obtain ⟨r, hr, hp⟩ := many1_ev x1 c hc hc1 d (i + 1) (l ++ [(⟨(⟨#[50, 46, 53, 46, 52, 46]⟩ : ByteArray) ++ t, 12, (⟨#[121]⟩ : ByteArray)⟩ : S26)]) (by omega) (by simp [hl]) (fun a h => by
   rcases List.mem_append.1 h with h | h
   ·exact hf a h
   ·obtain rfl := List.mem_singleton.1 h
    exact ⟨by show ((⟨#[50, 46, 53, 46, 52, 46]⟩ : ByteArray) ++ t).size < _; rw [ByteArray.size_append, h6]; omega, by show (⟨#[121]⟩ : ByteArray).size < _; decide⟩)
  refine ⟨r, ?_, hp⟩
  refine Ev.step (fun k => by rw [many1]) ?_
  rw [hc]
  refine Ev.pos (by omega) (Ev.bind ht ?_)
  rw [w64 (n := (i : Int) + 1) (by omega) (by omega)]
  exact Ev.pos (by rw [h6]; omega) (Ev.pos (by omega) (by simpa using hr))
theorem many2_ev (x2 : Int) (c : Nat) (hc : wrap64 (60 + wrap64 (Int.tmod x2 8)) = c) (hc1 : c < 1000) : ∀ (d i : Nat) (s : ByteArray), i + d = c → s.size = i → ∃ r, Ev (fun k => many2 k x2 i s) r ∧ r.size = c
 | 0, i, s, h, hl => ⟨s, Ev.step (fun k => by rw [many2]) (by rw [hc]; exact Ev.neg (by omega) (Ev.now _)), by omega⟩
 | d + 1, i, s, h, hl => by
  have h1 : (⟨#[122]⟩ : ByteArray).size = 1 := by decide
  obtain ⟨r, hr, hp⟩ := many2_ev x2 c hc hc1 d (i + 1) (s ++ (⟨#[122]⟩ : ByteArray)) (by omega) (by rw [ByteArray.size_append, h1]; omega)
  refine ⟨r, ?_, hp⟩
  refine Ev.step (fun k => by rw [many2]) ?_
  rw [hc, w64 (n := (i : Int) + 1) (by omega) (by omega)]
  exact Ev.pos (by omega) (Ev.pos (by rw [h1]; omega) (by simpa using hr))
theorem awake_many : Ev (fun k => zo.f k) true := Ev.of (zo.mono) (k := 60) (by kernel_rfl)
theorem u8_ge {x : Int} (h : (Lit.int .u8 x).wf = true) : 0 ≤ x := by
 simp [Lit.wf, IntKind.bits, IntKind.signed, IntKind.min, IntKind.max] at h
 exact h.1
theorem tm (x : Int) (n : Nat) (h : 0 ≤ x) (hn : 0 < n) : ∃ c : Nat, Int.tmod x n = c ∧ c < n := by
 have h0 := Int.tmod_nonneg (n : Int) h
 have h1 := Int.tmod_lt_of_pos x (b := (n : Int)) (by omega)
 exact ⟨(Int.tmod x n).toNat, by omega, by omega⟩
theorem NameMany_ev : xu.Pure := by
 intro a0 a1 a2 w0 w1 w2
 obtain ⟨c0, h0, g0⟩ := tm a0 6 (u8_ge w0) (by omega)
 obtain ⟨c1, h1, g1⟩ := tm a1 7 (u8_ge w1) (by omega)
 obtain ⟨c2, h2, g2⟩ := tm a2 8 (u8_ge w2) (by omega)
 have e0 : wrap64 (5 + wrap64 (Int.tmod a0 6)) = ((5 + c0 : Nat) : Int) := by
  rw [show Int.tmod a0 6 = (c0 : Int) from h0, w64 (n := (c0 : Int)) (by omega) (by omega), w64 (by omega) (by omega)]; omega
 have e1 : wrap64 (Int.tmod a1 7) = (c1 : Int) := by rw [show Int.tmod a1 7 = (c1 : Int) from h1, w64 (by omega) (by omega)]
 have e2 : wrap64 (60 + wrap64 (Int.tmod a2 8)) = ((60 + c2 : Nat) : Int) := by
  rw [show Int.tmod a2 8 = (c2 : Int) from h2, w64 (n := (c2 : Int)) (by omega) (by omega), w64 (by omega) (by omega)]; omega
 obtain ⟨r, ⟨K0, hr⟩, fr⟩ := many0_ev a0 (5 + c0) e0 (by omega) (5 + c0) 0 [] (by omega) rfl (fun p h => by cases h)
 obtain ⟨m, ⟨K1, hm⟩, fm⟩ := many1_ev a1 c1 e1 (by omega) c1 0 [] (by omega) rfl (fun p h => by cases h)
 obtain ⟨v, ⟨K2, hv⟩, fv⟩ := many2_ev a2 (60 + c2) e2 (by omega) (60 + c2) 0 (⟨#[]⟩ : ByteArray) (by omega) rfl
 have fm' : ∀ l ∈ [m], Fit l := fun l h => by obtain rfl := List.mem_singleton.1 h; exact fm
 have fo : ∀ l ∈ [[(⟨(⟨#[50, 46, 53, 46, 52, 46, 49, 49]⟩ : ByteArray), 22, v⟩ : S26)]], Fit l := fun l h => by
  obtain rfl := List.mem_singleton.1 h
  intro a ha
  obtain rfl := List.mem_singleton.1 ha
  exact ⟨by show (⟨#[50, 46, 53, 46, 52, 46, 49, 49]⟩ : ByteArray).size < _; decide, by show v.size < _; omega⟩
 obtain ⟨L1, i1⟩ := Check_f r fr
 obtain ⟨L2, i2⟩ := CheckName_f r fr
 obtain ⟨L3, i3⟩ := Check_f [m] fm'
 obtain ⟨L4, i4⟩ := CheckName_f [m] fm'
 obtain ⟨L5, i5⟩ := Check_f _ fo
 obtain ⟨L6, i6⟩ := CheckName_f _ fo
 obtain ⟨L7, i7⟩ := awake_many
 refine ⟨K0 + K1 + K2 + L1 + L2 + L3 + L4 + L5 + L6 + L7, r, m, v, _, _, _, hr _ (by omega), hm _ (by omega), hv _ (by omega), ⟨i1 _ (by omega), i2 _ (by omega)⟩, ⟨i3 _ (by omega), i4 _ (by omega)⟩, ⟨i5 _ (by omega), i6 _ (by omega)⟩, i7 _ (by omega)⟩
end Go.Proofs.YtjhlinifnjoefaaDoor.Pl
namespace Go.Proofs.YtjhlinifnjoefaaDoor.Pure
open Go.Proofs.YtjhlinifnjoefaaDoor.C
theorem NameMany : xu.Pure := Pl.NameMany_ev
end Go.Proofs.YtjhlinifnjoefaaDoor.Pure
end
