/- Words, walks and plain laws that the claim rests on, gathered. -/
import Derived.Lib.SplitLaws
import Derived.OrdersHeld
import Derived.Deep.RegionHeld3
import Derived.Laws.BitsLemmas
import Derived.RowKit
import Derived.Below
import Derived.Deep.Draws
import Derived.Deep.AppendLies
import Derived.Maps.AppendAt
import Derived.OwnWalk
import Derived.Laws.BytesArg
import Derived.Laws.MakeOwn
import Derived.Laws.OwnMore
import Derived.Deep.OwnRows
import Derived.Tactics
import Derived.Lib.ConvBytes
import Derived.Laws.Slices
import Derived.WalkKit
import Derived.KernelRfl
import Derived.RowKit3
import Derived.Deep.LoopGhost
import Derived.Deep.QuietTactic
import Derived.BigQuiet
import Derived.WideLaws
import Derived.Deep.DeepCutAuto
import Derived.Deep.CutBlock
import Derived.Laws.Rows
import Derived.Lib.AppendStr
import Derived.ArgAppend
import Derived.Laws.IdiomCopy
import Derived.Sort.Walk0
import Derived.Lib.Join
import Derived.Deep.Slices
import Derived.Deep.Strs
import Derived.ChangeSame
import Derived.WideShapes
import Derived.Test.YthdoohfdminfgaaGreatDoorProg
import Derived.WalkSpells
import Derived.WalkLawsBesides
import Derived.Shelf.Strings.Builder1
import Derived.Shelf.Strings.Builder2
import Derived.Shelf.Strings.OnBuilder
import Derived.Shelf.Small.Bits
import Derived.Shelf.Small.Strs
import Derived.Shelf.Strings.BuilderF
import Derived.Shelf.Strings.BuilderK
import Derived.Shelf.Utf8.RuneCount
import Derived.Shelf.Strings.Builder2Cap
import Derived.Shelf.Strconv.Itoa0
import Derived.Shelf.Strconv.Itoa1
import Derived.Shelf.LaysM
import Derived.Shelf.Strconv.Itoa2
import Derived.Shelf.Strconv.Itoa3
import Derived.Shelf.Strings.Search1
import Derived.Shelf.Strings.Search2
import Derived.Shelf.Strings.Search3
import Derived.Shelf.Strings.Cut
import Derived.Shelf.Strings.Count
import Derived.Shelf.Strings.Shaped
import Derived.Shelf.Sort.Plain
import Derived.Ground.GgsProg
import Derived.Shelf.GgSortFunc.Insertion
import Derived.Shelf.GgSortFunc.Small
import Derived.Shelf.GgSortFunc.InsertionK
import Derived.Shelf.GgSortFunc.SmallK
import Derived.Shelf.GgSortFunc.Tiny
import Derived.Shelf.GgSortFunc.Compose
import Derived.Shelf.GgSortFunc.LotD
import Derived.Shelf.GgSortFunc.Pivot
import Derived.Shelf.GgSortFunc.Partition
import Derived.Shelf.GgSortFunc.Pdq
import Derived.Shelf.GgSortFunc.Whole
import Derived.Shelf.Strings.Prefix
import Derived.Shelf.Strings.Split
import Derived.Shelf.Strings.SplitShaped
import Derived.Shelf.Unicode.Decode
import Derived.Shelf.Strings.RuneCount
import Derived.Shelf.Strings.Explode
import Derived.Shelf.Unicode.DecodeSlow
import Derived.Shelf.Unicode.DecodeAny
import Derived.Shelf.Strings.BuilderCap
import Derived.Shelf.Slices.In.SortNone
import Derived.Shelf.Slices.In.SortNone2
import Derived.Shelf.SlSortFunc.Xorshift
import Derived.Shelf.SlSortFuncK.ComposeK
import Derived.Shelf.SlSortFuncK.SiftDownK
import Derived.Shelf.SlSortFuncK.HeapSortK
import Derived.Shelf.SlSortFuncK.PartialInsertionK
import Derived.Shelf.SlSortFuncK.LotDK
import Derived.Shelf.SlSortFuncK.PivotK
import Derived.Shelf.SlSortFuncK.PartitionK
import Derived.Shelf.SlSortFunc.SiftDown
import Derived.Shelf.SlSortFunc.HeapSort
import Derived.Shelf.SlSortFunc.PartialInsertion
import Derived.Shelf.SlSortFuncK.PdqK
import Derived.Shelf.SlSortFuncK.WholeK
import Derived.Lib.ItoaNum
import Derived.Laws.StructEq
import Derived.SizedLaws
import Derived.ChangeSlices
import Derived.Test.YthdoohfdminfgaaGreatDoorNK0
import Derived.Test.YthdoohfdminfgaaGreatDoorNK1
import Derived.Test.YthdoohfdminfgaaGreatDoorNK2
import Derived.Test.YthdoohfdminfgaaGreatDoorNK3
import Derived.Test.YthdoohfdminfgaaGreatDoorNK4
import Derived.Test.YthdoohfdminfgaaGreatDoorNK5
import Derived.Test.YthdoohfdminfgaaGreatDoorNK6
import Derived.Test.YthdoohfdminfgaaGreatDoorNK7
import Derived.Test.YthdoohfdminfgaaGreatDoorNK8
import Derived.Test.YthdoohfdminfgaaGreatDoorNK9
import Derived.Test.YthdoohfdminfgaaGreatDoorNK10
import Derived.Test.YthdoohfdminfgaaGreatDoorNK11
import Derived.Test.YthdoohfdminfgaaGreatDoorNK12
import Derived.Test.YthdoohfdminfgaaGreatDoorNK13
import Derived.Test.YthdoohfdminfgaaGreatDoorNK14
import Derived.Test.YthdoohfdminfgaaGreatDoorNKc
namespace Go.Proofs.YthdoohfdminfgaaGreatDoorW.PrintLast
end Go.Proofs.YthdoohfdminfgaaGreatDoorW.PrintLast
namespace Go.Proofs.YthdoohfdminfgaaGreatDoorW.PrintMore
end Go.Proofs.YthdoohfdminfgaaGreatDoorW.PrintMore
namespace Go.Proofs.YthdoohfdminfgaaGreatDoorW.PrintWords
end Go.Proofs.YthdoohfdminfgaaGreatDoorW.PrintWords
section
namespace Go.Proofs.YthdoohfdminfgaaGreatDoor.C
open Go.RowKit Go.Proofs.YthdoohfdminfgaaGreatDoorW.PrintWords Go.Proofs.YthdoohfdminfgaaGreatDoorW.PrintLast Go.Proofs.YthdoohfdminfgaaGreatDoorW.PrintMore Go.Proofs.YthdoohfdminfgaaGreatDoor.Pl
attribute [local go_sem] xa z7 xq xr zx zy xc z8
set_option linter.unusedVariables false
set_option linter.unusedSimpArgs false
def kPt : Kd Pt := Kd.scalar Pt.val (fun x => by cases x <;> rfl)
theorem infoI : (Tryz.prog.info? 20).map (fun i => (i.zero, i.size, i.bytes)) = some (some .nilIface, 1, 16) := by kernel_rfl
theorem mk_num (n : Int) (w : World) : (Instr.makeInterface 3 (.int .i64 n)).run Tryz.prog w = .ok (.iface 3 (.int .i64 n)) w := by kernel_rfl
theorem mk_txt (s : ByteArray) (w : World) : (Instr.makeInterface 9 (.string s)).run Tryz.prog w = .ok (.iface 9 (.string s)) w := by kernel_rfl
theorem as_num (n : Int) (w : World) : (Instr.typeAssert (.iface 3 (.int .i64 n)) 20 3 true).run Tryz.prog w = .ok (.tuple #[.int .i64 n, .bool true]) w := by kernel_rfl
theorem as_no (s : ByteArray) (w : World) : (Instr.typeAssert (.iface 9 (.string s)) 20 3 true).run Tryz.prog w = .ok (.tuple #[.int .i64 0, .bool false]) w := by kernel_rfl
theorem as_txt (s : ByteArray) (w : World) : (Instr.typeAssert (.iface 9 (.string s)) 20 9 true).run Tryz.prog w = .ok (.tuple #[.string s, .bool true]) w := by kernel_rfl
theorem itoaT (n : Nat) (h : n < 100) (W : World) : Calls Tryz.prog 93 #[.int .i64 (n : Int)] W fun e w' => e = .returned (.string (dec n)) ∧ W = w' := (Tryz.strconv_Itoa_small n h W).mono fun _ _ h => ⟨h.1, h.2.symm⟩
theorem at_pt {w : World} {A : Option Addr} {P : List Pt} (h : Kd.C kPt w A P.length P) (i : Nat) (p : Pt) (hi : P[i]? = some p) : ∃ ad, A = some ad ∧ w.cell? (ad.add i) = some p.val := by
 obtain ⟨hl, _⟩ := List.getElem?_eq_some_iff.1 hi
 obtain ⟨ad, rfl, hc⟩ := h.2.2 yg
 obtain ⟨cs, _, hK, hcc⟩ := hc i p hi
 have hK : cs = [p.val] := hK
 subst hK
 have := hcc 0 p.val rfl
 exact ⟨ad, rfl, by rwa [show i * kPt.sz + 0 = i from by rw [show kPt.sz = 1 from rfl, Nat.mul_one, Nat.add_zero]] at this⟩
theorem C_lit {W : World} {g T : Nat} (xs : List ByteArray) {cs : Array Value} (hcs : cs = (xs.map Value.string).toArray) (h : W.heap[g]? = some (.cells cs T (0, 0))) (hl : xs.length ≤ 1000) : Kd.C Kd.string W (some ⟨g, 0, none⟩) xs.length xs := by
 subst hcs
 refine ⟨rfl, by omega, fun _ => ⟨_, rfl, fun j p hj => ⟨[.string p], rfl, rfl, fun i u hu => ?_⟩⟩⟩
 match i, hu with
 | 0, hu =>
  obtain rfl : Value.string p = u := by simpa using hu
  rw [show j * Kd.string.sz + 0 = j from by rw [show Kd.string.sz = 1 from rfl, Nat.mul_one, Nat.add_zero], show (⟨g, 0, none⟩ : Addr).add j = ⟨g, j, none⟩ from Go.Proofs.YthdoohfdminfgaaGreatDoorW.PrintWords.add_plain g j, ql h j]
  simp [hj]
 | i + 1, hu => simp at hu
def key.T10 : Bool × List (List Nat × List Nat) := (true, [([], []), ([], []), ([1], [1]), ([2], [2]), ([], []), ([4], [4]), ([5], [5]), ([6], [6]), ([3, 7], [3, 7]), ([8, 6], [8]), ([9], [9]), ([0, 10, 9], [0, 10]), ([11, 11, 0, 1, 2, 3, 4, 5, 6, 7, 8, 9, 10, 11], [0, 11])])
def key.B10 : List Nat := [0, 0, 2, 6, 0, 16, 48, 112, 254, 510, 1022, 2047, 4095]
theorem key.tab10 : rtab .any (opsOf Tryz.f28 10) = key.T10 := by kernel_rfl
theorem key.bits10 : waitsOk key.T10.2 key.B10 = true := by kernel_rfl
set_option maxHeartbeats 16000000 in
set_option maxRecDepth 100000 in
theorem join_calls (P : List Pt) (hp : ∀ p ∈ P, p.ok) (hl : P.length ≤ 1000) (A : Option Addr) (c : Nat) (w : World) (hr : Kd.C kPt w A P.length P) (hc : P.length ≤ c) :
  Calls Tryz.prog 60 #[.slice A P.length c] w fun e w' => e = .returned (.string (joinB P)) ∧ Below w.heap.size w w' := by
 have HR := qa.mk hr
 have HP := qa.mk hp
 have HL := qa.mk hl
 clear hr hp
 go_enter Tryz.func60, Tryz.ntmps60
 go_wp2
 go_loopg [3, 10] P.length (fun kq v3 v10 w' => ∃ i : Nat, v10 = .int .i64 i ∧ qa (i + kq = P.length) ∧ qa (Kd.R Kd.string 9 w' w.heap.size (fun _ => True) v3 (outs (P.take i))) ∧ qa (Below w.heap.size w w'))
 case atStart => exact ⟨0, rfl, ⟨by omega⟩, ⟨Kd.R_nil _ _ _ _ _⟩, ⟨Below.refl _ _⟩⟩
 case round =>
  obtain ⟨i, rfl, hi, HO, HB⟩ := hrel
  cases gk with
  | zero =>
   obtain rfl : i = P.length := by have := hi.out; omega
   have hb0 : decide ((P.length : Int) < (P.length : Int)) = false := decide_eq_false yg
   have ho2 := HO.out
   rw [List.take_length] at ho2
   clear HO
   have HO := qa.mk ho2
   clear ho2
   obtain ⟨A3, c3, rfl⟩ := Kd.kj HO.out
   have HJ := qa.mk (show strings_Join.f (outs P) (⟨#[]⟩ : ByteArray) = some (joinB P) from join_f (outs P) (by have h1 : (outs P).length ≤ 3 * P.length := outs_len P; have := HL.out; omega) (by have := join_size P HP.out; have := HL.out; unfold joinB at *; omega))
   go_wp2_with ((with_reducible refine at_c 53 ?_); go_at_call 53; (with_reducible refine (strings_Join.calls A3 c3 (outs P) (⟨#[]⟩ : ByteArray) (joinB P) _ (Kd.xp HO.out).2.2 (Kd.xp HO.out).2.1 HJ.out).mono ?_); rintro e w1 ⟨rfl, hq⟩; have HB1 := qa.mk (qp HB.out hq); clear hq)
   go_ret
   exact ⟨rfl, HB1.out⟩
  | succ gk =>
   have hil : i < P.length := by have := hi.out; omega
   obtain ⟨p, hpi⟩ : ∃ p, P[i]? = some p := ⟨_, List.getElem?_eq_getElem hil⟩
   have OK := qa.mk (HP.out p (List.mem_of_getElem? hpi))
   have TK := qa.mk (show P.take (i + 1) = P.take i ++ [p] by rw [List.take_add_one, hpi]; rfl)
   have LN := qa.mk (show (outs (P.take i)).length ≤ 3000 by have h1 := outs_len (P.take i); rw [List.length_take] at h1; omega)
   obtain ⟨ad, rfl, hx⟩ := at_pt (Kd.ki HR.out HB.out) i p hpi
   have hb0 : decide ((i : Int) < (P.length : Int)) = true := decide_eq_true yg
   have q0 : (0 ≤ (i : Int)) = True := eq_true yg
   have q1 : ((i : Int) < (P.length : Int)) = True := eq_true yg
   have W1 := qa.mk (show wrap64 ((i : Int) + 1) = ((i + 1 : Nat) : Int) by unfold wrap64; omega)
   clear hpi
   cases p with
   | num n =>
    have a1 := as_num (n : Int)
    replace hx : wr.cell? (ad.add i) = some (.iface 3 (.int .i64 (n : Int))) := hx
    go_wp2_with (first | ((with_reducible refine at_c 93 ?_); go_at_call 93; refine (itoaT n OK.out _).mono ?_; rintro e w1 ⟨rfl, rfl⟩) | ((with_reducible refine xo (b := .append) (xs := #[.tmp 18, .tmp 21]) rfl ?_); at_builtin; refine Kd.R_append_rows Kd.string (Rr := Kd.string.K (wr.alloc (Obj.cells #[.string (dec n), .string (⟨#[59]⟩ : ByteArray)] 9))) (w0 := w) (W := (wr.alloc (Obj.cells #[.string (dec n), .string (⟨#[59]⟩ : ByteArray)] 9))) w.heap.size rfl (.tmp 18) (.tmp 21) 34 9 (.string ⟨#[]⟩) 16 rfl Tryz.underlying34 yj rfl (by decide) yg u3 (outs (P.take i)) [dec n, (⟨#[59]⟩ : ByteArray)] (some ⟨wr.heap.size, 0, none⟩) 2 2 (fun _ => True) (fun _ => False) rfl rfl (Kd.zh HO.out _) (C_lit [dec n, (⟨#[59]⟩ : ByteArray)] rfl (heap_alloc_new _ _) yt) (fun x cs h => h) (fun _ hk => hk.elim) (fun _ _ => trivial) (qc HB.out _) (qc HB.out _).size (by have := LN.out; simp; omega) ?_; intro v4 W3 ho hb hg hat; have HO1 := qa.mk ho; have HB1 := qa.mk hb; clear ho hb hg hat))
    go_roundg gk
    case measure => omega
    case rel => exact ⟨i + 1, by first | rfl | rw [W1.out], ⟨by have := hi.out; omega⟩, ⟨by rw [TK.out, outs_snoc]; exact HO1.out⟩, HB1⟩
   | txt s =>
    have a1 := as_no s
    have a2 := as_txt s
    replace hx : wr.cell? (ad.add i) = some (.iface 9 (.string s)) := hx
    go_wp2_with (first | ((with_reducible refine at_c 93 ?_); go_at_call 93; refine (itoaT s.size OK.out _).mono ?_; rintro e w1 ⟨rfl, rfl⟩) | ((with_reducible refine xo (b := .append) (xs := #[.tmp 26, .tmp 31]) rfl ?_); at_builtin; refine Kd.R_append_rows Kd.string (Rr := Kd.string.K (wr.alloc (Obj.cells #[.string (dec s.size), .string (⟨#[58]⟩ : ByteArray), .string s] 9))) (w0 := w) (W := (wr.alloc (Obj.cells #[.string (dec s.size), .string (⟨#[58]⟩ : ByteArray), .string s] 9))) w.heap.size rfl (.tmp 26) (.tmp 31) 34 9 (.string ⟨#[]⟩) 16 rfl Tryz.underlying34 yj rfl (by decide) yg u3 (outs (P.take i)) [dec s.size, (⟨#[58]⟩ : ByteArray), s] (some ⟨wr.heap.size, 0, none⟩) 3 3 (fun _ => True) (fun _ => False) rfl rfl (Kd.zh HO.out _) (C_lit [dec s.size, (⟨#[58]⟩ : ByteArray), s] rfl (heap_alloc_new _ _) yt) (fun x cs h => h) (fun _ hk => hk.elim) (fun _ _ => trivial) (qc HB.out _) (qc HB.out _).size (by have := LN.out; simp; omega) ?_; intro v4 W3 ho hb hg hat; have HO1 := qa.mk ho; have HB1 := qa.mk hb; clear ho hb hg hat))
    go_roundg gk
    case measure => omega
    case rel => exact ⟨i + 1, by first | rfl | rw [W1.out], ⟨by have := hi.out; omega⟩, ⟨by rw [TK.out, outs_snoc]; exact HO1.out⟩, HB1⟩
theorem foldT (s : ByteArray) (hs : s.size ≤ 1000000000) (W : World) : Calls Tryz.prog 61 #[.string s] W fun e w' => e = .returned (.string (F s)) ∧ Below W.heap.size W w' := by
 obtain ⟨k, hk⟩ := (Fold_t s hs).rounds
 exact zp.calls k s (F s) W hk
theorem C_str_step {W W1 : World} {A : Option Addr} {l : List ByteArray} {v v1 : Value} (h : Kd.C Kd.string W A l.length l) (hlt : ∀ ad, A = some ad → ad.block < W.heap.size) (hne : ∀ ad, A = some ad → v.ownBlock ≠ some ad.block) (hg : W.grownBy W1 v.ownBlock)
  (hat : v1.ownBlock = v.ownBlock ∨ ∃ b, v1.ownBlock = some b ∧ W.heap.size ≤ b) :
  Kd.C Kd.string W1 A l.length l ∧ (∀ ad, A = some ad → ad.block < W1.heap.size) ∧ (∀ ad, A = some ad → v1.ownBlock ≠ some ad.block) := by
 refine ⟨⟨h.1, h.2.1, fun hp => ?_⟩, fun ad e => Nat.lt_of_lt_of_le (hlt ad e) hg.size, fun ad e => ?_⟩
 ·obtain ⟨ad, e, hc⟩ := h.2.2 hp
  refine ⟨ad, e, fun j p hj => ?_⟩
  obtain ⟨cs, hl, hK, hcc⟩ := hc j p hj
  refine ⟨cs, hl, hK, fun i u hu => (World.cell?_of_block (w := W) ?_).trans (hcc i u hu)⟩
  rw [add_block]
  exact hg.block ad.block (hlt ad e) (fun he => hne ad e he.symm)
 ·rcases hat with he | ⟨b, he, hb⟩
  ·rw [he]; exact hne ad e
  ·rw [he]
   intro e2
   injection e2 with e2
   have := hlt ad e
   omega
set_option maxHeartbeats 16000000 in
set_option maxRecDepth 100000 in
theorem key_calls (n : List (List S40)) (hn : Petty n) (A : Option Addr) (c : Nat) (w : World) (hr : Kd.C (Kd.slice 40 k40) w A n.length n) :
  Calls Tryz.prog 28 #[.agg #[.slice A n.length c]] w fun e w' => e = .returned (.string (keyS n)) ∧ Below w.heap.size w w' := by
 have hu24 := Tryz.underlying31
 have hu26 := Tryz.underlying40
 have HN := qa.mk hr
 have HPY := qa.mk hn
 have N8 := qa.mk hn.1
 clear hr hn
 go_enter Tryz.func28, Tryz.ntmps28
 go_upto_region 1 with (fail)
 obtain ⟨W1, hW⟩ : ∃ W_, W_ = w.alloc (Obj.cells #[Value.slice A n.length c] 31) := ⟨_, rfl⟩
 rw [← hW]
 have HU := qa.mk (show Below w.heap.size w W1 by rw [hW]; exact qc (Below.refl _ _) _)
 have BK := qa.mk (show W1.heap[w.heap.size]? = some (.cells #[.slice A n.length c] 31 (0, 0)) by rw [hW]; exact heap_alloc_new _ _)
 have HN1 := qa.mk (Kd.ki HN.out HU.out)
 clear hW HN
 obtain ⟨gx, hgx⟩ : ∃ x, x = w.heap.size := ⟨_, rfl⟩
 rw [← hgx] at BK ⊢
 clear hgx
 have zk : W1.cell? ⟨gx, 0, none⟩ = some (.slice A n.length c) := (ql BK.out 0).trans rfl
 have mk1 := mk_num (n.length : Int)
 go_upto_region 3 with ((with_reducible refine xo (b := .append) (xs := #[.tmp 11, .tmp 16]) rfl ?_); at_builtin; refine Kd.kv kPt (w0 := W1) (W := W1) W1.heap.size rfl (.tmp 11) (.tmp 16) 94 20 .nilIface 16 rfl Tryz.underlying94 infoI rfl (by decide) yg (.slice none 0 0) [] (.num n.length) [.iface 3 (.int .i64 (n.length : Int))] (fun _ => True) (fun _ => False) rfl rfl rfl (fun _ hk => hk.elim) (fun _ _ => trivial) (Kd.R_nil _ _ _ _ _) (Below.refl _ _) (Nat.le_refl _) yt ?_; intro v3 W2 ho hb hg hat; have HO := qa.mk ho; have HB := qa.mk hb; have zk2 : W2.cell? ⟨gx, 0, none⟩ = some (.slice A n.length c) := (ql (q9 BK.out hb) 0).trans rfl; clear ho hb hg hat)
 clear zk mk1
 go_wp2
 clear zk2
 go_loopg [3, 21] n.length (fun kq v3 v21 w' => ∃ i : Nat, v21 = .int .i64 i ∧ qa (i + kq = n.length) ∧ qa (Kd.R kPt 20 w' W1.heap.size (fun _ => True) v3 (keyQ n i)) ∧ qa (Below W1.heap.size W1 w'))
 case atStart => exact ⟨0, rfl, ⟨by omega⟩, ⟨by rw [keyQ_zero]; exact HO.out⟩, HB⟩
 case round =>
  clear HO HB
  obtain ⟨i, rfl, hi, HO, HB⟩ := hrel
  cases gk with
  | zero =>
   obtain rfl : i = n.length := by have := hi.out; omega
   have hb0 : decide ((n.length : Int) < (n.length : Int)) = false := decide_eq_false yg
   have ho2 := HO.out
   rw [keyQ_all] at ho2
   clear HO
   have HO := qa.mk ho2
   clear ho2
   obtain ⟨A3, c3, rfl⟩ := Kd.kj HO.out
   have LP := qa.mk (show (keyP n).length ≤ 1000 by rw [← keyQ_all]; have := keyQ_len HPY.out n.length; omega)
   go_wp2_with ((with_reducible refine at_c 60 ?_); go_at_call 60; (with_reducible refine (join_calls (keyP n) (keyP_ok HPY.out) LP.out A3 c3 _ (Kd.xp HO.out).2.2 (Kd.xp HO.out).2.1).mono ?_); rintro e w1 ⟨rfl, hq⟩; have HB1 := qa.mk (qp HB.out hq); clear hq)
   go_ret
   exact ⟨rfl, qp HU.out HB1.out⟩
  | succ k1 =>
   have hil : i < n.length := by have := hi.out; omega
   obtain ⟨r, hri⟩ : ∃ r, n[i]? = some r := ⟨_, List.getElem?_eq_getElem hil⟩
   have hrd : xx n (i : Int) = r := by unfold xx; rw [Int.toNat_natCast, List.getD_eq_getElem?_getD, hri]; rfl
   obtain ⟨ad, Ar, cr, e, hx, hcr, hC⟩ := at_L5 (Kd.ki HN1.out HB.out) (i : Int) yg yg
   rw [Int.toNat_natCast] at hx
   rw [hrd] at hx hcr hC
   have HRow := qa.mk hC
   have NI := qa.mk hri
   have R4 := qa.mk (HPY.out.2 r (List.mem_of_getElem? hri))
   have R4l := qa.mk R4.out.1
   subst e
   have hb0 : decide ((i : Int) < (n.length : Int)) = true := decide_eq_true yg
   have q0 : (0 ≤ (i : Int)) = True := eq_true yg
   have q1 : ((i : Int) < (n.length : Int)) = True := eq_true yg
   have W1i := qa.mk (show wrap64 ((i : Int) + 1) = ((i + 1 : Nat) : Int) by have := N8.out; unfold wrap64; omega)
   clear hri hrd hcr hC
   obtain ⟨wo, rfl⟩ : ∃ wo : World, wo = wr := ⟨_, rfl⟩
   go_wp2
   clear hx q0 q1 hb0
   go_loopg [6, 27] r.length (fun kq v6 v27 w' => ∃ j : Nat, v27 = .int .i64 j ∧ qa (j + kq = r.length) ∧ qa (Kd.R Kd.string 9 w' wo.heap.size (fun _ => True) v6 ((r.take j).map keyA)) ∧ qa (Below wo.heap.size wo w'))
   case atStart => exact ⟨0, rfl, ⟨by omega⟩, ⟨Kd.R_nil _ _ _ _ _⟩, ⟨Below.refl _ _⟩⟩
   case round =>
    obtain ⟨j, rfl, hj, HO6, HB6⟩ := hrel
    cases gk with
    | zero =>
     obtain rfl : j = r.length := by have := hj.out; omega
     have hb0 : decide ((r.length : Int) < (r.length : Int)) = false := decide_eq_false yg
     have ho2 := HO6.out
     rw [List.take_length] at ho2
     clear HO6
     obtain ⟨lk, hlk⟩ : ∃ lk, lk = r.map keyA := ⟨_, rfl⟩
     rw [← hlk] at ho2
     have HO6 := qa.mk ho2
     have LK := qa.mk hlk
     have LL := qa.mk (show lk.length = r.length by rw [hlk, List.length_map])
     clear ho2 hlk
     obtain ⟨A6, c6, rfl⟩ := Kd.kj HO6.out
     have A6b := qa.mk (fun ad (e : A6 = some ad) => show wo.heap.size ≤ ad.block ∧ ad.block < wr.heap.size from ⟨Kd.R_base HO6.out ad.block (by rw [e]; simp [Value.ownBlock]), Kd.R_lt HO6.out ad.block (by rw [e]; simp [Value.ownBlock])⟩)
     have V3 := qa.mk (fun k (e : u3.ownBlock = some k) => Kd.R_lt HO.out k e)
     have mk1 := mk_num (lk.length : Int)
     go_upto_region 13 with ((with_reducible refine at_c 62 ?_); go_at_call 62; refine (sort_own HO6.out (by have := LL.out; have := R4l.out; omega)).mono ?_; rintro e Ws ⟨rfl, hc2, hb2⟩; have HC6 := qa.mk hc2; have HBs := qa.mk (HB6.out.trans hb2); have SZ := qa.mk hb2.size; clear hc2 hb2)
     obtain ⟨L6, hL6⟩ : ∃ L6, L6 = sortS lk := ⟨_, rfl⟩
     have LS := qa.mk hL6
     have LN6 := qa.mk (show L6.length = lk.length by rw [hL6, sortS_length])
     have hc6 := HC6.out
     rw [← hL6, ← LN6.out] at hc6
     clear HC6
     have HC6 := qa.mk hc6
     have HOs := qa.mk (Kd.kt HO.out HBs.out)
     have HBW := qa.mk (qp HB.out HBs.out)
     clear hL6 hc6 HO6
     go_upto_region 14 with ((with_reducible refine xo (b := .append) (xs := #[.tmp 46, .tmp 50]) rfl ?_); at_builtin; refine Kd.kv kPt (w0 := W1) (W := Ws) W1.heap.size rfl (.tmp 46) (.tmp 50) 94 20 .nilIface 16 rfl Tryz.underlying94 infoI rfl (by decide) yg u3 (keyQ n i) (.num lk.length) [.iface 3 (.int .i64 (lk.length : Int))] (fun _ => True) (fun _ => False) rfl rfl rfl (fun _ hk => hk.elim) (fun _ _ => trivial) HOs.out HBW.out HBW.out.size (by have := keyQ_len HPY.out i; omega) ?_; intro v13 W13 ho hb hg hat; have HO3 := qa.mk ho; have HB3 := qa.mk hb; have ST6 := qa.mk (C_str_step HC6.out (fun ad e => Nat.lt_of_lt_of_le (A6b.out ad e).2 SZ.out) (fun ad e e2 => by have h1 := (A6b.out ad e).1; have h2 := V3.out ad.block e2; omega) hg hat); clear ho hb hg hat)
     clear mk1 HOs HBW HBs HC6
     go_wp2
     go_loopg [3, 54] lk.length (fun kq v3 v54 w' => ∃ t : Nat, v54 = .int .i64 t ∧ qa (t + kq = lk.length) ∧ qa (Kd.R kPt 20 w' W1.heap.size (fun _ => True) v3 (keyQ n i ++ [.num lk.length] ++ (L6.take t).map .txt)) ∧ qa (Kd.C Kd.string w' A6 L6.length L6 ∧ (∀ ad, A6 = some ad → ad.block < w'.heap.size) ∧ (∀ ad, A6 = some ad → v3.ownBlock ≠ some ad.block)) ∧ qa (Below W1.heap.size W1 w'))
     case atStart => exact ⟨0, rfl, ⟨by omega⟩, ⟨by simpa using HO3.out⟩, ST6, HB3⟩
     case round =>
      clear HO3 HB3 ST6
      obtain ⟨t, rfl, ht, HO3, ST6, HB3⟩ := hrel
      cases gk with
      | zero =>
       obtain rfl : t = lk.length := by have := ht.out; omega
       have hb1 : decide ((lk.length : Int) < (lk.length : Int)) = false := decide_eq_false yg
       go_wp2
       go_roundg k1
       case measure => omega
       case rel =>
        refine ⟨i + 1, by first | rfl | rw [W1i.out], ⟨by have := hi.out; omega⟩, ⟨?_⟩, HB3⟩
        have ho3 := HO3.out
        rw [List.take_of_length_le (by rw [LN6.out]; exact Nat.le_refl _), LS.out, LK.out] at ho3
        rw [keyQ_succ NI.out]
        unfold keyR
        simpa [List.append_assoc] using ho3
      | succ k3 =>
       have htl : t < lk.length := by have := ht.out; omega
       have htl6 : t < L6.length := by rw [LN6.out]; exact htl
       obtain ⟨x, hx6⟩ : ∃ x, L6[t]? = some x := ⟨_, List.getElem?_eq_getElem htl6⟩
       obtain ⟨ad6, e6, hz⟩ := Kd.at_string ST6.out.1 (t : Int) yg yg
       rw [Int.toNat_natCast, show rdOf ByteArray.empty L6 (t : Int) = x from by unfold rdOf; rw [Int.toNat_natCast, List.getD_eq_getElem?_getD, hx6]; rfl] at hz
       have TK := qa.mk (show (L6.take (t + 1)).map Pt.txt = (L6.take t).map Pt.txt ++ [.txt x] by rw [List.take_add_one, hx6]; simp)
       have LQ := qa.mk (show (keyQ n i ++ [Pt.num lk.length] ++ (L6.take t).map Pt.txt).length ≤ 100 by have h1 := keyQ_len HPY.out i; have h2 := R4l.out; have h3 := LL.out; simp only [List.length_append, List.length_cons, List.length_nil, List.length_map, List.length_take]; omega)
       have W1t := qa.mk (show wrap64 ((t : Int) + 1) = ((t + 1 : Nat) : Int) by have := R4l.out; have := LL.out; unfold wrap64; omega)
       subst e6
       have hb1 : decide ((t : Int) < (lk.length : Int)) = true := decide_eq_true yg
       have q0 : (0 ≤ (t : Int)) = True := eq_true yg
       have q1 : ((t : Int) < (lk.length : Int)) = True := eq_true yg
       have mk2 := mk_txt x
       clear hx6 htl6
       go_wp2_with ((with_reducible refine xo (b := .append) (xs := #[.tmp 58, .tmp 61]) rfl ?_); at_builtin; refine Kd.kv kPt (w0 := W1) (W := wr) W1.heap.size rfl (.tmp 58) (.tmp 61) 94 20 .nilIface 16 rfl Tryz.underlying94 infoI rfl (by decide) yg u3 _ (.txt x) [.iface 9 (.string x)] (fun _ => True) (fun _ => False) rfl rfl rfl (fun _ hk => hk.elim) (fun _ _ => trivial) HO3.out HB3.out HB3.out.size (by have := LQ.out; omega) ?_; intro v17 W17 ho hb hg hat; have HO4 := qa.mk ho; have HB4 := qa.mk hb; have ST7 := qa.mk (C_str_step ST6.out.1 ST6.out.2.1 ST6.out.2.2 hg hat); clear ho hb hg hat)
       go_roundg k3
       case measure => omega
       case rel => exact ⟨t + 1, by first | rfl | rw [W1t.out], ⟨by have := ht.out; omega⟩, ⟨by rw [TK.out, ← List.append_assoc]; exact HO4.out⟩, ST7, HB4⟩
    | succ k2 =>
     have hjl : j < r.length := by have := hj.out; omega
     have hb1 : decide ((j : Int) < (r.length : Int)) = true := decide_eq_true yg
     have p0 : (0 ≤ (j : Int)) = True := eq_true yg
     have p1 : ((j : Int) < (r.length : Int)) = True := eq_true yg
     obtain ⟨a, haj⟩ : ∃ a, a = qn r (j : Int) := ⟨_, rfl⟩
     have hrj : r[j]? = some a := by rw [haj]; unfold qn; rw [Int.toNat_natCast, List.getD_eq_getElem?_getD, List.getElem?_eq_getElem hjl]; rfl
     obtain ⟨ad2, e2, hx0, hx1, hx2⟩ := k5 (Kd.ki HRow.out HB6.out) (j : Int) yg yg
     rw [← haj, Int.toNat_natCast] at hx0 hx1 hx2
     have AS := qa.mk (R4.out.2 a (List.mem_of_getElem? hrj))
     have TJ := qa.mk (show (r.take (j + 1)).map keyA = (r.take j).map keyA ++ [keyA a] by rw [List.take_add_one, hrj]; simp)
     have JL := qa.mk hjl
     have WJ := qa.mk (show wrap64 ((j : Int) + 1) = ((j + 1 : Nat) : Int) by have := R4l.out; unfold wrap64; omega)
     clear haj hrj
     subst e2
     go_upto_region 10 with (fail)
     obtain ⟨W2, hW2⟩ : ∃ W_, W_ = wr.alloc (Obj.cells #[Value.string a.f0, Value.int IntKind.i64 a.f1, Value.string a.f2] 40) := ⟨_, rfl⟩
     rw [← hW2]
     have hb2 : Below wr.heap.size wr W2 := by rw [hW2]; exact qc (Below.refl _ _) _
     have BA := qa.mk (show W2.heap[wr.heap.size]? = some (.cells #[.string a.f0, .int .i64 a.f1, .string a.f2] 40 (0, 0)) by rw [hW2]; exact heap_alloc_new _ _)
     replace HO6 := qa.mk (Kd.kt HO6.out hb2)
     replace HB6 := qa.mk (qp HB6.out hb2)
     clear hW2 hb2 hx0 hx1 hx2 p0 p1
     generalize wr.heap.size = gA at BA ⊢
     have mk1 := mk_txt a.f0
     have mk2 := mk_txt (F a.f2)
     have hdr : Below W2.heap.size W2 W2.drew := below_drew (Below.refl _ _)
     replace BA := qa.mk (q9 BA.out hdr)
     replace HO6 := qa.mk (Kd.kt HO6.out hdr)
     replace HB6 := qa.mk (qp HB6.out hdr)
     clear hdr
     refine start_ (n := 13) (S := fun w' => w'.cell? ⟨gA, 0, none⟩ = some (.string a.f0) ∧ w'.cell? ⟨gA, 2, none⟩ = some (.string a.f2)) (ds := []) #[false, false, false, false, false, false, false, false, false, false, false, false, false] yj rfl rfl ⟨(ql BA.out 0).trans rfl, (ql BA.out 2).trans rfl⟩ (fun hHeld => ?_); refine with_tabW key.tab10 key.bits10 (fun HT_ HW_ => ?_)
     generalize W2.drew = Wd at BA HO6 HB6 hHeld ⊢
     have HBd := qa.mk (Below.refl Wd.heap.size Wd)
     refine ko (i := 0) (N := (some 31)) (v := ?_) (a' := ?_) #[true, false, false, false, false, false, false, false, false, false, false, false, false] rfl rfl (xw HT_.out yj) (fun _ _ _ h => h) (Or.inl ⟨by rfl, ?_⟩) ?_ ?_
     rotate_left
     ·intro w'
      go_simp
      with_reducible rfl
     rotate_left
     ·simp only [Act.put, List.setIfInBounds_toArray, List.set_cons_zero, List.set_cons_succ, zm, zq]
      rfl
     refine ko (i := 1) (N := (some 32)) (v := ?_) (a' := ?_) #[true, true, false, false, false, false, false, false, false, false, false, false, false] rfl rfl (xw HT_.out yj) (fun _ _ _ h => h) (Or.inl ⟨by rfl, ?_⟩) ?_ ?_
     rotate_left
     ·intro w'
      go_simp
      with_reducible rfl
     rotate_left
     ·simp only [Act.put, List.setIfInBounds_toArray, List.set_cons_zero, List.set_cons_succ, zm, zq]
      rfl
     refine ko (i := 4) (N := (some 35)) (v := ?_) (a' := ?_) #[true, true, false, false, true, false, false, false, false, false, false, false, false] rfl rfl (xw HT_.out yj) (fun _ _ _ h => h) (Or.inl ⟨by rfl, ?_⟩) ?_ ?_
     rotate_left
     ·intro w'
      go_simp
      with_reducible rfl
     rotate_left
     ·simp only [Act.put, List.setIfInBounds_toArray, List.set_cons_zero, List.set_cons_succ, zm, zq]
      rfl
     refine jb (i := 2) (N := (some 33)) (v := ?_) (a' := ?_) #[true, true, true, false, true, false, false, false, false, false, false, false, false] rfl rfl (kf HT_.out HW_.out yj) (fun _ _ _ h => h) (Or.inl ⟨by rfl, ?_⟩) hHeld ?_ ?_
     rotate_left
     ·rintro w' ⟨s0, s1⟩
      go_simp
      with_reducible rfl
     rotate_left
     ·simp only [Act.put, List.setIfInBounds_toArray, List.set_cons_zero, List.set_cons_succ, zm, zq]
      rfl
     refine ko (i := 3) (N := (some 34)) (v := ?_) (a' := ?_) #[true, true, true, true, true, false, false, false, false, false, false, false, false] rfl rfl (xw HT_.out yj) (fun _ _ _ h => h) (Or.inl ⟨by rfl, ?_⟩) ?_ ?_
     rotate_left
     ·intro w'
      go_simp
      with_reducible rfl
     rotate_left
     ·simp only [Act.put, List.setIfInBounds_toArray, List.set_cons_zero, List.set_cons_succ, zm, zq]
      rfl
     refine jb (i := 5) (N := (some 36)) (v := ?_) (a' := ?_) #[true, true, true, true, true, true, false, false, false, false, false, false, false] rfl rfl (kf HT_.out HW_.out yj) (fun _ _ _ h => h) (Or.inl ⟨by rfl, ?_⟩) hHeld ?_ ?_
     rotate_left
     ·rintro w' ⟨s0, s1⟩
      go_simp
      with_reducible rfl
     rotate_left
     ·simp only [Act.put, List.setIfInBounds_toArray, List.set_cons_zero, List.set_cons_succ, zm, zq]
      rfl
     refine one_ (i := 6) (N := (some 37)) #[true, true, true, true, true, true, true, false, false, false, false, false, false] rfl rfl (je HT_.out yj) (by decide) (fun K hK => ?_)
     refine goes_ Tryz.func61 yj rfl #[.string a.f2] (by rfl) rfl rfl yc ?_
     refine (foldT a.f2 (by have := AS.out; omega) _).mono ?_
     rintro e_ W3 ⟨rfl, hq⟩
     refine ⟨_, rfl, ?_⟩
     replace BA := qa.mk (q9 BA.out hq)
     replace HO6 := qa.mk (Kd.kt HO6.out hq)
     replace HB6 := qa.mk (qp HB6.out hq)
     replace HBd := qa.mk (qp HBd.out hq)
     clear hq
     refine hK.out _ _ ⟨(ql BA.out 0).trans rfl, (ql BA.out 2).trans rfl⟩ (fun hHeld => ?_)
     clear hK K
     refine norm_ (a' := ?_) ?_ ?_
     rotate_left
     ·show Act.put _ (some 37) _ = _
      simp only [Act.put, List.setIfInBounds_toArray, List.set_cons_zero, List.set_cons_succ, zm, zq]
      rfl
     refine ko (i := 7) (N := (some 38)) (v := ?_) (a' := ?_) #[true, true, true, true, true, true, true, true, false, false, false, false, false] rfl rfl (xw HT_.out yj) (fun _ _ _ h => h) (Or.inl ⟨by rfl, ?_⟩) ?_ ?_
     rotate_left
     ·intro w'
      go_simp
      with_reducible rfl
     rotate_left
     ·simp only [Act.put, List.setIfInBounds_toArray, List.set_cons_zero, List.set_cons_succ, zm, zq]
      rfl
     refine one_ (i := 8) (N := (some 39)) #[true, true, true, true, true, true, true, true, true, false, false, false, false] rfl rfl (je HT_.out yj) (by decide) (fun K hK => ?_)
     refine Kd.R_lit_step (w0 := Wd) kPt Wd.heap.size 20 (by rfl) (N := 39) rfl (xs := ([Pt.txt a.f0, Pt.txt (F a.f2)] : List Pt)) (inner := [.iface 9 (.string a.f0), .iface 9 (.string (F a.f2))]) (ok := fun _ => True) (okp := fun _ => True) ?hr ?hp (fun _ hk => hk) trivial HBd.out HBd.out.size yt ?_
     case hr => first | (go_simp; done) | (go_simp; rfl)
     case hp => exact (Reps.one (show Kd.M kPt _ _ _ (Pt.txt a.f0) [.iface 9 (.string a.f0)] from rfl) (Reps.one (show Kd.M kPt _ _ _ (Pt.txt (F a.f2)) [.iface 9 (.string (F a.f2))] from rfl) (Reps.none _ _)))
     intro v39 W4 ho hb hg hnew
     have H39 := qa.mk ho
     replace BA := qa.mk (kw BA.out hg yt)
     replace HO6 := qa.mk (Kd.R_grown HO6.out hg (fun _ _ => by simp))
     replace HB6 := qa.mk (pw_below_grown HB6.out none HB6.out.size hg (fun k h_ => by cases h_))
     replace HBd := qa.mk hb
     clear ho hb hg hnew
     obtain ⟨A39, c39, rfl⟩ := Kd.kj H39.out
     refine hK.out _ _ ⟨(ql BA.out 0).trans rfl, (ql BA.out 2).trans rfl⟩ (fun hHeld => ?_)
     clear hK K
     refine norm_ (a' := ?_) ?_ ?_
     rotate_left
     ·show Act.put _ (some 39) _ = _
      simp only [Act.put, List.setIfInBounds_toArray, List.set_cons_zero, List.set_cons_succ, zm, zq]
      rfl
     refine one_ (i := 9) (N := (some 40)) #[true, true, true, true, true, true, true, true, true, true, false, false, false] rfl rfl (je HT_.out yj) (by decide) (fun K hK => ?_)
     refine goes_ Tryz.func60 yj rfl #[.slice A39 ([Pt.txt a.f0, Pt.txt (F a.f2)] : List Pt).length c39] (by rfl) rfl rfl yc ?_
     refine (join_calls ([Pt.txt a.f0, Pt.txt (F a.f2)] : List Pt) (keyA_ok ⟨AS.out.1, AS.out.2.2⟩) yt A39 c39 _ (Kd.xp H39.out).2.2 (Kd.xp H39.out).2.1).mono ?_
     rintro e_ W5 ⟨rfl, hq⟩
     refine ⟨_, rfl, ?_⟩
     replace BA := qa.mk (q9 BA.out hq)
     replace HO6 := qa.mk (Kd.kt HO6.out hq)
     replace HB6 := qa.mk (qp HB6.out hq)
     replace HBd := qa.mk (qp HBd.out hq)
     clear hq H39
     refine hK.out _ _ ⟨(ql BA.out 0).trans rfl, (ql BA.out 2).trans rfl⟩ (fun hHeld => ?_)
     clear hK K
     refine norm_ (a' := ?_) ?_ ?_
     rotate_left
     ·show Act.put _ (some 40) _ = _
      simp only [Act.put, List.setIfInBounds_toArray, List.set_cons_zero, List.set_cons_succ, zm, zq]
      rfl
     refine one_ (i := 10) (N := (some 41)) #[true, true, true, true, true, true, true, true, true, true, true, false, false] rfl rfl (je HT_.out yj) (by decide) (fun K hK => ?_)
     refine Kd.R_lit_step (w0 := Wd) Kd.string Wd.heap.size 9 (by rfl) (N := 41) rfl (xs := ([keyA a] : List ByteArray)) (inner := [.string (joinB ([Pt.txt a.f0, Pt.txt (F a.f2)] : List Pt))]) (ok := fun _ => True) (okp := fun _ => True) ?hr ?hp (fun _ hk => hk) trivial HBd.out HBd.out.size yt ?_
     case hr => first | (go_simp; done) | (go_simp; rfl)
     case hp => exact (Reps.one (show Kd.M Kd.string _ _ _ (keyA a) [.string (joinB ([Pt.txt a.f0, Pt.txt (F a.f2)] : List Pt))] from rfl) (Reps.none _ _))
     intro v41 W6 ho hb hg hnew
     have H41 := qa.mk ho
     replace BA := qa.mk (kw BA.out hg yt)
     replace HO6 := qa.mk (Kd.R_grown HO6.out hg (fun _ _ => by simp))
     replace HB6 := qa.mk (pw_below_grown HB6.out none HB6.out.size hg (fun k h_ => by cases h_))
     replace HBd := qa.mk hb
     clear ho hb hg hnew
     obtain ⟨A41, c41, rfl⟩ := Kd.kj H41.out
     refine hK.out _ _ ⟨(ql BA.out 0).trans rfl, (ql BA.out 2).trans rfl⟩ (fun hHeld => ?_)
     clear hK K
     refine norm_ (a' := ?_) ?_ ?_
     rotate_left
     ·show Act.put _ (some 41) _ = _
      simp only [Act.put, List.setIfInBounds_toArray, List.set_cons_zero, List.set_cons_succ, zm, zq]
      rfl
     refine one_ (i := 11) (N := (some 42)) #[true, true, true, true, true, true, true, true, true, true, true, true, false] rfl rfl (je HT_.out yj) (by decide) (fun K hK => ?_)
     refine Kd.R_append_rows_step Kd.string (Rr := Kd.string.K W6) (w0 := wo) (W := W6) wo.heap.size (by rfl) (.tmp 31) (.tmp 41) 34 9 (.string ⟨#[]⟩) 16 rfl Tryz.underlying34 yj rfl (by decide) yg u6 ((r.take j).map keyA) [keyA a] A41 ([keyA a] : List ByteArray).length c41 (fun _ => True) (fun _ => False) rfl rfl HO6.out (Kd.xp H41.out).2.2 (fun x cs h => h) (fun _ hk => hk.elim) (fun _ _ => trivial) HB6.out HB6.out.size (by have := R4l.out; simp only [List.length_map, List.length_take, List.length_cons, List.length_nil]; omega) ?_
     intro v42 W7 ho hb hg hat
     replace BA := qa.mk (kw BA.out hg (Kd.R_ne HO6.out BA.out (by decide)))
     replace HO6 := qa.mk ho
     replace HB6 := qa.mk hb
     clear ho hb hg hat H41 HBd
     refine hK.out _ _ ⟨(ql BA.out 0).trans rfl, (ql BA.out 2).trans rfl⟩ (fun hHeld => ?_)
     clear hK K
     refine norm_ (a' := ?_) ?_ ?_
     rotate_left
     ·show Act.put _ (some 42) _ = _
      simp only [Act.put, List.setIfInBounds_toArray, List.set_cons_zero, List.set_cons_succ, zm, zq]
      rfl
     refine ko (i := 12) (N := (some 6)) (v := ?_) (a' := ?_) #[true, true, true, true, true, true, true, true, true, true, true, true, true] rfl rfl (xw HT_.out yj) (fun _ _ _ h => h) (Or.inl ⟨by rfl, ?_⟩) ?_ ?_
     rotate_left
     ·intro w'
      go_simp
      with_reducible rfl
     rotate_left
     ·simp only [Act.put, List.setIfInBounds_toArray, List.set_cons_zero, List.set_cons_succ, zm, zq]
      rfl
     refine done_ (done_of HT_.out yj) ?_
     clear hHeld mk1 mk2 BA
     go_wp2
     go_roundg k2
     case measure => omega
     case rel => exact ⟨j + 1, by first | rfl | rw [WJ.out], ⟨by have := hj.out; omega⟩, ⟨by rw [TJ.out]; exact HO6.out⟩, HB6⟩
end Go.Proofs.YthdoohfdminfgaaGreatDoor.C
end
section
namespace Go.Proofs.YthdoohfdminfgaaGreatDoor.C
open Go.RowKit Go.Proofs.YthdoohfdminfgaaGreatDoorW.PrintWords Go.Proofs.YthdoohfdminfgaaGreatDoorW.PrintLast Go.Proofs.YthdoohfdminfgaaGreatDoorW.PrintMore Go.Proofs.YthdoohfdminfgaaGreatDoor.Pl
attribute [local go_sem] xa z7 xq xr zx zy xc z8
set_option linter.unusedVariables false
set_option linter.unusedSimpArgs false
def klaw.T6 : Bool × List (List Nat × List Nat) := (true, [([], []), ([0, 0], [0]), ([1], [1]), ([2, 1, 1], [1, 2]), ([1], [1]), ([4, 3, 1], [1, 4]), ([3, 5, 1], [1, 3, 5]), ([1, 6], [1, 6]), ([7, 5], [7]), ([8], [8]), ([9, 8, 8], [8, 9]), ([8], [8]), ([11, 10, 8], [8, 11]), ([10, 12, 8], [8, 10, 12]), ([8], [8]), ([8], [8]), ([14, 15, 12, 8], [8, 14, 15]), ([13, 16, 8], [8, 13, 16]), ([8, 17], [8, 17]), ([18, 16, 0, 1, 2, 3, 4, 5, 6, 7, 8, 9, 10, 11, 12, 13, 14, 15, 16, 17, 18], [18])])
def klaw.B6 : List Nat := [0, 1, 3, 7, 3, 31, 63, 127, 255, 511, 1023, 511, 4095, 8191, 511, 511, 57343, 131071, 262143, 524287]
theorem klaw.tab6 : rtab .any (opsOf Tryz.f6 6) = klaw.T6 := by kernel_rfl
theorem klaw.bits6 : waitsOk klaw.T6.2 klaw.B6 = true := by kernel_rfl
theorem petty_fit {n : List (List S40)} (h : Petty n) : ∀ r ∈ n, Fit r := fun r hr a ha => by have := (h.2 r hr).2 a ha; omega
theorem chkK (W : World) {A_ : Option Addr} {c : Nat} {n : List (List S40)} (hn : Kd.C (Kd.slice 40 k40) W A_ n.length n) (hc : n.length ≤ c) (hf : Petty n) {x : Int} (h : nameErr n = x) :
  Calls Tryz.prog 22 #[.agg #[.slice A_ n.length c]] W fun e w' => e = .returned (.int .i64 x) ∧ Below W.heap.size W w' := by
 obtain ⟨k, hk⟩ := (CheckName_f n (petty_fit hf)).rounds
 rw [h] at hk
 exact ze.calls k A_ c n x W hn hc hk
theorem keyT (W : World) {g : Nat} {A_ : Option Addr} {c : Nat} {n : List (List S40)} (hn : NameAt g W A_ c n) (hf : Petty n) {s : ByteArray} (h : keyS n = s) :
  Calls Tryz.prog 28 #[.agg #[.slice A_ n.length c]] W fun e w' => e = .returned (.string s) ∧ Below W.heap.size W w' := by
 subst h
 exact key_calls n hf A_ c W hn.now
set_option maxHeartbeats 16000000 in
set_option maxRecDepth 100000 in
theorem keylaw_calls (A0 : Option Addr) (c0 : Nat) (l : List Int) (w : World) (hG : LibHeld w) (hl : Kd.C (Kd.int .i64) w A0 l.length l) (hc : l.length ≤ c0) (hL : l.length ≤ 140737488351232) :
  Calls Tryz.prog 6 #[.slice A0 l.length c0] w fun e w' => e = .returned (.bool true) ∧ Below w.heap.size w w' := by
 have hu24 := Tryz.underlying31
 have HG := qa.mk hG
 have HL := qa.mk hl
 have HC := qa.mk hc
 have HLL := qa.mk hL
 clear hG hl hc hL
 go_enter Tryz.func6, Tryz.ntmps6
 go_upto_region 2 with ((with_reducible refine at_c 9 ?_); go_at_call 9; refine (newT _ A0 c0 l HL.out HC.out HLL.out).mono ?_; rintro e W1 ⟨g, rfl, di, hb⟩; have DI := qa.mk di; have HB := qa.mk hb; clear di hb)
 go_upto_region 3 with ((with_reducible refine at_c 11 ?_); go_at_call 11; refine (nameT w _ DI.out HB.out).mono ?_; rintro e W1 ⟨Aa, ca, a, rfl, ti, rm, na, di, hb, hk⟩; replace DI := qa.mk di; replace HB := qa.mk hb; clear di hb hk; have NAa := qa.mk na; have RMa := qa.mk rm; have TIa := qa.mk ti; have FIa := qa.mk (ti.fine yg); clear na ti rm)
 obtain ⟨W2, hWW⟩ : ∃ W_, W_ = W1.alloc (Obj.cells #[.slice Aa a.length ca] 31) := ⟨_, rfl⟩
 rw [← hWW]
 have BKa := qa.mk (show W2.heap[W1.heap.size]? = some (.cells #[.slice Aa a.length ca] 31 (0, 0)) by rw [hWW]; exact heap_alloc_new _ _)
 have NEa := qa.mk (show W1.heap.size ≠ g from Nat.ne_of_gt DI.out.lt)
 have GEa := qa.mk (show w.heap.size ≤ W1.heap.size from HB.out.size)
 have hb0 : Below (W1).heap.size W1 _ := (show Below W1.heap.size W1 W2 by rw [hWW]; exact qc (Below.refl _ _) _)
 have di := DI.out.below hb0
 have hb := qp HB.out hb0
 have hk := KeepBut.of_below hb0 g none
 clear hb0
 replace DI := qa.mk di
 replace HB := qa.mk hb
 replace NAa := qa.mk (NAa.out.keep (KeepT.of hk))
 clear di hb hk
 clear hWW
 generalize W1.heap.size = ga at BKa NEa GEa  ⊢
 have za : W2.cell? ⟨ga, 0, none⟩ = some (.slice Aa a.length ca) := (ql BKa.out 0).trans rfl
 go_upto_region 4 with (first | ((with_reducible refine at_c 27 ?_); go_at_call 27; refine (spellT w _ DI.out HB.out NAa.out (TIa.out.short yg)).mono ?_; rintro e W3 ⟨Ab, cb, b, rfl, sp, na, di, hb, hk⟩; replace DI := qa.mk di; replace HB := qa.mk hb; replace BKa := qa.mk (KeepBut.blk hk BKa.out NEa.out yt); replace NAa := qa.mk (NAa.out.keep (KeepT.of hk)); clear di hb hk; have NAb := qa.mk na; have SPb := qa.mk sp; have TIb := qa.mk (TIa.out.spell sp); have FIb := qa.mk (TIb.out.fine yg); clear na sp) | ((with_reducible refine at_c 11 ?_); go_at_call 11; refine (nameT w _ DI.out HB.out).mono ?_; rintro e W4 ⟨Ac, cc, c, rfl, ti, rm, na, di, hb, hk⟩; replace DI := qa.mk di; replace HB := qa.mk hb; replace BKa := qa.mk (KeepBut.blk hk BKa.out NEa.out yt); replace NAa := qa.mk (NAa.out.keep (KeepT.of hk)); replace NAb := qa.mk (NAb.out.keep (KeepT.of hk)); clear di hb hk; have NAc := qa.mk na; have RMc := qa.mk rm; have TIc := qa.mk ti; have FIc := qa.mk (ti.fine yg); clear na ti rm))
 clear za
 obtain ⟨W5, hWW⟩ : ∃ W_, W_ = W4.alloc (Obj.cells #[.slice Ab b.length cb] 31) := ⟨_, rfl⟩
 rw [← hWW]
 rw [show W4.heap.size + 1 = W5.heap.size from by rw [hWW]; simp]
 have BKb := qa.mk (show W5.heap[W4.heap.size]? = some (.cells #[.slice Ab b.length cb] 31 (0, 0)) by rw [hWW]; exact heap_alloc_new _ _)
 have NEb := qa.mk (show W4.heap.size ≠ g from Nat.ne_of_gt DI.out.lt)
 have GEb := qa.mk (show w.heap.size ≤ W4.heap.size from HB.out.size)
 have Na_b := qa.mk (show ga ≠ W4.heap.size from Nat.ne_of_lt (zz BKa.out))
 have hb0 : Below (W4).heap.size W4 _ := (show Below W4.heap.size W4 W5 by rw [hWW]; exact qc (Below.refl _ _) _)
 have di := DI.out.below hb0
 have hb := qp HB.out hb0
 have hk := KeepBut.of_below hb0 g none
 clear hb0
 replace DI := qa.mk di
 replace HB := qa.mk hb
 replace BKa := qa.mk (KeepBut.blk hk BKa.out NEa.out yt)
 replace NAa := qa.mk (NAa.out.keep (KeepT.of hk))
 replace NAb := qa.mk (NAb.out.keep (KeepT.of hk))
 replace NAc := qa.mk (NAc.out.keep (KeepT.of hk))
 clear di hb hk
 clear hWW
 generalize W4.heap.size = gb at BKb NEb GEb Na_b ⊢
 obtain ⟨W6, hWW⟩ : ∃ W_, W_ = W5.alloc (Obj.cells #[.slice Ac c.length cc] 31) := ⟨_, rfl⟩
 rw [← hWW]
 have BKc := qa.mk (show W6.heap[W5.heap.size]? = some (.cells #[.slice Ac c.length cc] 31 (0, 0)) by rw [hWW]; exact heap_alloc_new _ _)
 have NEc := qa.mk (show W5.heap.size ≠ g from Nat.ne_of_gt DI.out.lt)
 have GEc := qa.mk (show w.heap.size ≤ W5.heap.size from HB.out.size)
 have Na_c := qa.mk (show ga ≠ W5.heap.size from Nat.ne_of_lt (zz BKa.out))
 have Nb_c := qa.mk (show gb ≠ W5.heap.size from Nat.ne_of_lt (zz BKb.out))
 have hb0 : Below (W5).heap.size W5 _ := (show Below W5.heap.size W5 W6 by rw [hWW]; exact qc (Below.refl _ _) _)
 have di := DI.out.below hb0
 have hb := qp HB.out hb0
 have hk := KeepBut.of_below hb0 g none
 clear hb0
 replace DI := qa.mk di
 replace HB := qa.mk hb
 replace BKa := qa.mk (KeepBut.blk hk BKa.out NEa.out yt)
 replace BKb := qa.mk (KeepBut.blk hk BKb.out NEb.out yt)
 replace NAa := qa.mk (NAa.out.keep (KeepT.of hk))
 replace NAb := qa.mk (NAb.out.keep (KeepT.of hk))
 replace NAc := qa.mk (NAc.out.keep (KeepT.of hk))
 clear di hb hk
 clear hWW
 generalize W5.heap.size = gc at BKc NEc GEc Na_c Nb_c ⊢
 have PYa := qa.mk (Petty.made TIa.out.1 RMa.out)
 have PYb := qa.mk (Petty.spell TIa.out.1 RMa.out SPb.out).1
 have PYc := qa.mk (Petty.made TIc.out.1 RMc.out)
 have DSa := qa.mk (fun r hr => Dist.made (RMa.out r hr))
 have DSc := qa.mk (fun r hr => Dist.made (RMc.out r hr))
 have KAB := qa.mk (show keyS b = keyS a from (keyS_eq DSa.out (Petty.spell TIa.out.1 RMa.out SPb.out).2 (SpN_match SPb.out)).symm)
 have KAC := qa.mk (key_law PYa.out PYc.out DSa.out DSc.out)
 clear RMa RMc TIa TIb TIc SPb DSa DSc
 obtain ⟨xb, hxb⟩ : ∃ xb, nameErr b = xb := ⟨_, rfl⟩
 have XB := qa.mk hxb
 clear hxb
 have zb : W6.cell? ⟨gb, 0, none⟩ = some (.slice Ab b.length cb) := (ql BKb.out 0).trans rfl
 by_cases hx : xb = 0
 case neg =>
  have h1 : (xb != 0) = true := bne_iff_ne.mpr hx
  have h2 : decide (xb = 0) = false := decide_eq_false hx
  go_wp2_with (first | ((with_reducible refine at_c 22 ?_); go_at_call 22; refine (chkK _ NAb.out.now NAb.out.cap PYb.out XB.out).mono ?_; rintro e W7 ⟨rfl, hq⟩; have di := DI.out.below hq; have hb := qp HB.out hq; have hk := KeepBut.of_below hq g none; clear hq; replace DI := qa.mk di; replace HB := qa.mk hb; replace BKa := qa.mk (KeepBut.blk hk BKa.out NEa.out yt); replace BKb := qa.mk (KeepBut.blk hk BKb.out NEb.out yt); replace BKc := qa.mk (KeepBut.blk hk BKc.out NEc.out yt); replace NAa := qa.mk (NAa.out.keep (KeepT.of hk)); replace NAb := qa.mk (NAb.out.keep (KeepT.of hk)); replace NAc := qa.mk (NAc.out.keep (KeepT.of hk)); clear di hb hk) | ((with_reducible refine at_c 8 ?_); go_at_call 8; refine (awakeT _ (LibHeld.below HG.out HB.out)).mono ?_; rintro e W90 ⟨rfl, hq⟩; replace HB := qa.mk (qp HB.out hq); clear hq))
  go_ret
  exact ⟨rfl, HB.out⟩
 subst hx
 go_upto_region 6 with ((with_reducible refine at_c 22 ?_); go_at_call 22; refine (chkK _ NAb.out.now NAb.out.cap PYb.out XB.out).mono ?_; rintro e W7 ⟨rfl, hq⟩; have di := DI.out.below hq; have hb := qp HB.out hq; have hk := KeepBut.of_below hq g none; clear hq; replace DI := qa.mk di; replace HB := qa.mk hb; replace BKa := qa.mk (KeepBut.blk hk BKa.out NEa.out yt); replace BKb := qa.mk (KeepBut.blk hk BKb.out NEb.out yt); replace BKc := qa.mk (KeepBut.blk hk BKc.out NEc.out yt); replace NAa := qa.mk (NAa.out.keep (KeepT.of hk)); replace NAb := qa.mk (NAb.out.keep (KeepT.of hk)); replace NAc := qa.mk (NAc.out.keep (KeepT.of hk)); clear di hb hk)
 clear zb
 cases hm : matchS a c with
 | false =>
  have HM := qa.mk hm
  clear hm
  obtain ⟨kc, hkc⟩ : ∃ kc, keyS c = kc := ⟨_, rfl⟩
  have KC := qa.mk hkc
  have hne : ((keyS a).toList == kc.toList) = false := by rw [← hkc, KAC.out, HM.out]
  clear hkc
  have hb0 : Below (W7).heap.size W7 _ := (show Below W7.heap.size W7 W7.drew from below_drew (Below.refl _ _))
  have di := DI.out.below hb0
  have hb := qp HB.out hb0
  have hk := KeepBut.of_below hb0 g none
  clear hb0
  replace DI := qa.mk di
  replace HB := qa.mk hb
  replace BKa := qa.mk (KeepBut.blk hk BKa.out NEa.out yt)
  replace BKb := qa.mk (KeepBut.blk hk BKb.out NEb.out yt)
  replace BKc := qa.mk (KeepBut.blk hk BKc.out NEc.out yt)
  replace NAa := qa.mk (NAa.out.keep (KeepT.of hk))
  replace NAb := qa.mk (NAb.out.keep (KeepT.of hk))
  replace NAc := qa.mk (NAc.out.keep (KeepT.of hk))
  clear di hb hk
  refine start_ (n := 20) (S := fun w' => w'.cell? ⟨ga, 0, none⟩ = some (.slice Aa a.length ca) ∧ w'.cell? ⟨gb, 0, none⟩ = some (.slice Ab b.length cb) ∧ w'.cell? ⟨gc, 0, none⟩ = some (.slice Ac c.length cc)) (ds := []) #[false, false, false, false, false, false, false, false, false, false, false, false, false, false, false, false, false, false, false, false] yj rfl rfl ⟨((ql BKa.out 0).trans rfl), ((ql BKb.out 0).trans rfl), ((ql BKc.out 0).trans rfl)⟩ (fun hHeld => ?_); refine with_tabW klaw.tab6 klaw.bits6 (fun HT_ HW_ => ?_)
  generalize W7.drew = W8 at DI HB BKa BKb BKc NAa NAb NAc hHeld ⊢
  refine one_ (i := 0) (N := (some 20)) #[true, false, false, false, false, false, false, false, false, false, false, false, false, false, false, false, false, false, false, false] rfl rfl (je HT_.out yj) (by decide) (fun K hK => ?_)
  refine goes_ Tryz.func8 yj rfl #[] (by rfl) rfl rfl yc ?_
  refine (awakeT _ (LibHeld.below HG.out HB.out)).mono ?_
  rintro e_ W9 ⟨rfl, hq⟩
  refine ⟨_, rfl, ?_⟩
  have di := DI.out.below hq
  have hb := qp HB.out hq
  have hk := KeepBut.of_below hq g none
  clear hq
  replace DI := qa.mk di
  replace HB := qa.mk hb
  replace BKa := qa.mk (KeepBut.blk hk BKa.out NEa.out yt)
  replace BKb := qa.mk (KeepBut.blk hk BKb.out NEb.out yt)
  replace BKc := qa.mk (KeepBut.blk hk BKc.out NEc.out yt)
  replace NAa := qa.mk (NAa.out.keep (KeepT.of hk))
  replace NAb := qa.mk (NAb.out.keep (KeepT.of hk))
  replace NAc := qa.mk (NAc.out.keep (KeepT.of hk))
  clear di hb hk
  refine hK.out _ _ ⟨((ql BKa.out 0).trans rfl), ((ql BKb.out 0).trans rfl), ((ql BKc.out 0).trans rfl)⟩ (fun hHeld => ?_)
  clear hK K
  refine norm_ (a' := ?_) ?_ ?_
  rotate_left
  ·show Act.put _ (some 20) _ = _
   simp only [Act.put, List.setIfInBounds_toArray, List.set_cons_zero, List.set_cons_succ, zm, zq]
   rfl
  refine ko (i := 1) (N := (some 21)) (v := ?_) (a' := ?_) #[true, true, false, false, false, false, false, false, false, false, false, false, false, false, false, false, false, false, false, false] rfl rfl (xw HT_.out yj) (fun _ _ _ h => h) (Or.inl ⟨by rfl, ?_⟩) ?_ ?_
  rotate_left
  ·intro w'
   go_simp
   with_reducible rfl
  rotate_left
  ·simp only [Act.put, List.setIfInBounds_toArray, List.set_cons_zero, List.set_cons_succ, zm, zq]
   rfl
  refine jb (i := 2) (N := (some 22)) (v := ?_) (a' := ?_) #[true, true, true, false, false, false, false, false, false, false, false, false, false, false, false, false, false, false, false, false] rfl rfl (kf HT_.out HW_.out yj) (fun _ _ _ h => h) (Or.inl ⟨by rfl, ?_⟩) hHeld ?_ ?_
  rotate_left
  ·rintro w' ⟨s0, s1, s2⟩
   go_simp
   with_reducible rfl
  rotate_left
  ·simp only [Act.put, List.setIfInBounds_toArray, List.set_cons_zero, List.set_cons_succ, zm, zq]
   rfl
  refine jb (i := 4) (N := (some 24)) (v := ?_) (a' := ?_) #[true, true, true, false, true, false, false, false, false, false, false, false, false, false, false, false, false, false, false, false] rfl rfl (kf HT_.out HW_.out yj) (fun _ _ _ h => h) (Or.inl ⟨by rfl, ?_⟩) hHeld ?_ ?_
  rotate_left
  ·rintro w' ⟨s0, s1, s2⟩
   go_simp
   with_reducible rfl
  rotate_left
  ·simp only [Act.put, List.setIfInBounds_toArray, List.set_cons_zero, List.set_cons_succ, zm, zq]
   rfl
  refine one_ (i := 3) (N := (some 23)) #[true, true, true, true, true, false, false, false, false, false, false, false, false, false, false, false, false, false, false, false] rfl rfl (je HT_.out yj) (by decide) (fun K hK => ?_)
  refine goes_ Tryz.func28 yj rfl #[.agg #[.slice Aa a.length ca]] (by rfl) rfl rfl yc ?_
  refine (keyT _ NAa.out PYa.out rfl).mono ?_
  rintro e_ W10 ⟨rfl, hq⟩
  refine ⟨_, rfl, ?_⟩
  have di := DI.out.below hq
  have hb := qp HB.out hq
  have hk := KeepBut.of_below hq g none
  clear hq
  replace DI := qa.mk di
  replace HB := qa.mk hb
  replace BKa := qa.mk (KeepBut.blk hk BKa.out NEa.out yt)
  replace BKb := qa.mk (KeepBut.blk hk BKb.out NEb.out yt)
  replace BKc := qa.mk (KeepBut.blk hk BKc.out NEc.out yt)
  replace NAa := qa.mk (NAa.out.keep (KeepT.of hk))
  replace NAb := qa.mk (NAb.out.keep (KeepT.of hk))
  replace NAc := qa.mk (NAc.out.keep (KeepT.of hk))
  clear di hb hk
  refine hK.out _ _ ⟨((ql BKa.out 0).trans rfl), ((ql BKb.out 0).trans rfl), ((ql BKc.out 0).trans rfl)⟩ (fun hHeld => ?_)
  clear hK K
  refine norm_ (a' := ?_) ?_ ?_
  rotate_left
  ·show Act.put _ (some 23) _ = _
   simp only [Act.put, List.setIfInBounds_toArray, List.set_cons_zero, List.set_cons_succ, zm, zq]
   rfl
  refine one_ (i := 5) (N := (some 25)) #[true, true, true, true, true, true, false, false, false, false, false, false, false, false, false, false, false, false, false, false] rfl rfl (je HT_.out yj) (by decide) (fun K hK => ?_)
  refine goes_ Tryz.func28 yj rfl #[.agg #[.slice Ab b.length cb]] (by rfl) rfl rfl yc ?_
  refine (keyT _ NAb.out PYb.out KAB.out).mono ?_
  rintro e_ W11 ⟨rfl, hq⟩
  refine ⟨_, rfl, ?_⟩
  have di := DI.out.below hq
  have hb := qp HB.out hq
  have hk := KeepBut.of_below hq g none
  clear hq
  replace DI := qa.mk di
  replace HB := qa.mk hb
  replace BKa := qa.mk (KeepBut.blk hk BKa.out NEa.out yt)
  replace BKb := qa.mk (KeepBut.blk hk BKb.out NEb.out yt)
  replace BKc := qa.mk (KeepBut.blk hk BKc.out NEc.out yt)
  replace NAa := qa.mk (NAa.out.keep (KeepT.of hk))
  replace NAb := qa.mk (NAb.out.keep (KeepT.of hk))
  replace NAc := qa.mk (NAc.out.keep (KeepT.of hk))
  clear di hb hk
  refine hK.out _ _ ⟨((ql BKa.out 0).trans rfl), ((ql BKb.out 0).trans rfl), ((ql BKc.out 0).trans rfl)⟩ (fun hHeld => ?_)
  clear hK K
  refine norm_ (a' := ?_) ?_ ?_
  rotate_left
  ·show Act.put _ (some 25) _ = _
   simp only [Act.put, List.setIfInBounds_toArray, List.set_cons_zero, List.set_cons_succ, zm, zq]
   rfl
  refine ko (i := 6) (N := (some 26)) (v := ?_) (a' := ?_) #[true, true, true, true, true, true, true, false, false, false, false, false, false, false, false, false, false, false, false, false] rfl rfl (xw HT_.out yj) (fun _ _ _ h => h) (Or.inl ⟨by rfl, ?_⟩) ?_ ?_
  rotate_left
  ·intro w'
   go_simp
   with_reducible rfl
  rotate_left
  ·simp only [Act.put, List.setIfInBounds_toArray, List.set_cons_zero, List.set_cons_succ, zm, zq]
   rfl
  refine ko (i := 7) (N := (some 27)) (v := ?_) (a' := ?_) #[true, true, true, true, true, true, true, true, false, false, false, false, false, false, false, false, false, false, false, false] rfl rfl (xw HT_.out yj) (fun _ _ _ h => h) (Or.inl ⟨by rfl, ?_⟩) ?_ ?_
  rotate_left
  ·intro w'
   go_simp
   with_reducible rfl
  rotate_left
  ·simp only [Act.put, List.setIfInBounds_toArray, List.set_cons_zero, List.set_cons_succ, zm, zq]
   rfl
  refine ko (i := 8) (N := (some 28)) (v := ?_) (a' := ?_) #[true, true, true, true, true, true, true, true, true, false, false, false, false, false, false, false, false, false, false, false] rfl rfl (xw HT_.out yj) (fun _ _ _ h => h) (Or.inl ⟨by rfl, ?_⟩) ?_ ?_
  rotate_left
  ·intro w'
   go_simp
   with_reducible rfl
  rotate_left
  ·simp only [Act.put, List.setIfInBounds_toArray, List.set_cons_zero, List.set_cons_succ, zm, zq]
   rfl
  refine jb (i := 9) (N := (some 29)) (v := ?_) (a' := ?_) #[true, true, true, true, true, true, true, true, true, true, false, false, false, false, false, false, false, false, false, false] rfl rfl (kf HT_.out HW_.out yj) (fun _ _ _ h => h) (Or.inl ⟨by rfl, ?_⟩) hHeld ?_ ?_
  rotate_left
  ·rintro w' ⟨s0, s1, s2⟩
   go_simp
   with_reducible rfl
  rotate_left
  ·simp only [Act.put, List.setIfInBounds_toArray, List.set_cons_zero, List.set_cons_succ, zm, zq]
   rfl
  refine jb (i := 11) (N := (some 31)) (v := ?_) (a' := ?_) #[true, true, true, true, true, true, true, true, true, true, false, true, false, false, false, false, false, false, false, false] rfl rfl (kf HT_.out HW_.out yj) (fun _ _ _ h => h) (Or.inl ⟨by rfl, ?_⟩) hHeld ?_ ?_
  rotate_left
  ·rintro w' ⟨s0, s1, s2⟩
   go_simp
   with_reducible rfl
  rotate_left
  ·simp only [Act.put, List.setIfInBounds_toArray, List.set_cons_zero, List.set_cons_succ, zm, zq]
   rfl
  refine jb (i := 14) (N := (some 34)) (v := ?_) (a' := ?_) #[true, true, true, true, true, true, true, true, true, true, false, true, false, false, true, false, false, false, false, false] rfl rfl (kf HT_.out HW_.out yj) (fun _ _ _ h => h) (Or.inl ⟨by rfl, ?_⟩) hHeld ?_ ?_
  rotate_left
  ·rintro w' ⟨s0, s1, s2⟩
   go_simp
   with_reducible rfl
  rotate_left
  ·simp only [Act.put, List.setIfInBounds_toArray, List.set_cons_zero, List.set_cons_succ, zm, zq]
   rfl
  refine jb (i := 15) (N := (some 35)) (v := ?_) (a' := ?_) #[true, true, true, true, true, true, true, true, true, true, false, true, false, false, true, true, false, false, false, false] rfl rfl (kf HT_.out HW_.out yj) (fun _ _ _ h => h) (Or.inl ⟨by rfl, ?_⟩) hHeld ?_ ?_
  rotate_left
  ·rintro w' ⟨s0, s1, s2⟩
   go_simp
   with_reducible rfl
  rotate_left
  ·simp only [Act.put, List.setIfInBounds_toArray, List.set_cons_zero, List.set_cons_succ, zm, zq]
   rfl
  refine one_ (i := 10) (N := (some 30)) #[true, true, true, true, true, true, true, true, true, true, true, true, false, false, true, true, false, false, false, false] rfl rfl (je HT_.out yj) (by decide) (fun K hK => ?_)
  refine goes_ Tryz.func28 yj rfl #[.agg #[.slice Aa a.length ca]] (by rfl) rfl rfl yc ?_
  refine (keyT _ NAa.out PYa.out rfl).mono ?_
  rintro e_ W12 ⟨rfl, hq⟩
  refine ⟨_, rfl, ?_⟩
  have di := DI.out.below hq
  have hb := qp HB.out hq
  have hk := KeepBut.of_below hq g none
  clear hq
  replace DI := qa.mk di
  replace HB := qa.mk hb
  replace BKa := qa.mk (KeepBut.blk hk BKa.out NEa.out yt)
  replace BKb := qa.mk (KeepBut.blk hk BKb.out NEb.out yt)
  replace BKc := qa.mk (KeepBut.blk hk BKc.out NEc.out yt)
  replace NAa := qa.mk (NAa.out.keep (KeepT.of hk))
  replace NAb := qa.mk (NAb.out.keep (KeepT.of hk))
  replace NAc := qa.mk (NAc.out.keep (KeepT.of hk))
  clear di hb hk
  refine hK.out _ _ ⟨((ql BKa.out 0).trans rfl), ((ql BKb.out 0).trans rfl), ((ql BKc.out 0).trans rfl)⟩ (fun hHeld => ?_)
  clear hK K
  refine norm_ (a' := ?_) ?_ ?_
  rotate_left
  ·show Act.put _ (some 30) _ = _
   simp only [Act.put, List.setIfInBounds_toArray, List.set_cons_zero, List.set_cons_succ, zm, zq]
   rfl
  refine one_ (i := 12) (N := (some 32)) #[true, true, true, true, true, true, true, true, true, true, true, true, true, false, true, true, false, false, false, false] rfl rfl (je HT_.out yj) (by decide) (fun K hK => ?_)
  refine goes_ Tryz.func28 yj rfl #[.agg #[.slice Ac c.length cc]] (by rfl) rfl rfl yc ?_
  refine (keyT _ NAc.out PYc.out KC.out).mono ?_
  rintro e_ W13 ⟨rfl, hq⟩
  refine ⟨_, rfl, ?_⟩
  have di := DI.out.below hq
  have hb := qp HB.out hq
  have hk := KeepBut.of_below hq g none
  clear hq
  replace DI := qa.mk di
  replace HB := qa.mk hb
  replace BKa := qa.mk (KeepBut.blk hk BKa.out NEa.out yt)
  replace BKb := qa.mk (KeepBut.blk hk BKb.out NEb.out yt)
  replace BKc := qa.mk (KeepBut.blk hk BKc.out NEc.out yt)
  replace NAa := qa.mk (NAa.out.keep (KeepT.of hk))
  replace NAb := qa.mk (NAb.out.keep (KeepT.of hk))
  replace NAc := qa.mk (NAc.out.keep (KeepT.of hk))
  clear di hb hk
  refine hK.out _ _ ⟨((ql BKa.out 0).trans rfl), ((ql BKb.out 0).trans rfl), ((ql BKc.out 0).trans rfl)⟩ (fun hHeld => ?_)
  clear hK K
  refine norm_ (a' := ?_) ?_ ?_
  rotate_left
  ·show Act.put _ (some 32) _ = _
   simp only [Act.put, List.setIfInBounds_toArray, List.set_cons_zero, List.set_cons_succ, zm, zq]
   rfl
  refine ko (i := 13) (N := (some 33)) (v := ?_) (a' := ?_) #[true, true, true, true, true, true, true, true, true, true, true, true, true, true, true, true, false, false, false, false] rfl rfl (xw HT_.out yj) (fun _ _ _ h => h) (Or.inl ⟨by rfl, ?_⟩) ?_ ?_
  rotate_left
  ·intro w'
   go_simp
   with_reducible rfl
  rotate_left
  ·simp only [Act.put, List.setIfInBounds_toArray, List.set_cons_zero, List.set_cons_succ, zm, zq]
   rfl
  refine one_ (i := 16) (N := (some 36)) #[true, true, true, true, true, true, true, true, true, true, true, true, true, true, true, true, true, false, false, false] rfl rfl (je HT_.out yj) (by decide) (fun K hK => ?_)
  refine goes_ Tryz.func26 yj rfl #[.agg #[.slice Aa a.length ca], .agg #[.slice Ac c.length cc]] (by rfl) rfl rfl yc ?_
  refine (matchR _ NAa.out NAc.out FIa.out FIc.out HM.out).mono ?_
  rintro e_ W14 ⟨rfl, hq⟩
  refine ⟨_, rfl, ?_⟩
  have di := DI.out.below hq
  have hb := qp HB.out hq
  have hk := KeepBut.of_below hq g none
  clear hq
  replace DI := qa.mk di
  replace HB := qa.mk hb
  replace BKa := qa.mk (KeepBut.blk hk BKa.out NEa.out yt)
  replace BKb := qa.mk (KeepBut.blk hk BKb.out NEb.out yt)
  replace BKc := qa.mk (KeepBut.blk hk BKc.out NEc.out yt)
  replace NAa := qa.mk (NAa.out.keep (KeepT.of hk))
  replace NAb := qa.mk (NAb.out.keep (KeepT.of hk))
  replace NAc := qa.mk (NAc.out.keep (KeepT.of hk))
  clear di hb hk
  refine hK.out _ _ ⟨((ql BKa.out 0).trans rfl), ((ql BKb.out 0).trans rfl), ((ql BKc.out 0).trans rfl)⟩ (fun hHeld => ?_)
  clear hK K
  refine norm_ (a' := ?_) ?_ ?_
  rotate_left
  ·show Act.put _ (some 36) _ = _
   simp only [Act.put, List.setIfInBounds_toArray, List.set_cons_zero, List.set_cons_succ, zm, zq]
   rfl
  refine ko (i := 17) (N := (some 37)) (v := ?_) (a' := ?_) #[true, true, true, true, true, true, true, true, true, true, true, true, true, true, true, true, true, true, false, false] rfl rfl (xw HT_.out yj) (fun _ _ _ h => h) (Or.inl ⟨by rfl, ?_⟩) ?_ ?_
  rotate_left
  ·intro w'
   go_simp
   with_reducible rfl
  rotate_left
  ·simp only [Act.put, List.setIfInBounds_toArray, List.set_cons_zero, List.set_cons_succ, zm, zq]
   rfl
  refine ko (i := 18) (N := (some 38)) (v := ?_) (a' := ?_) #[true, true, true, true, true, true, true, true, true, true, true, true, true, true, true, true, true, true, true, false] rfl rfl (xw HT_.out yj) (fun _ _ _ h => h) (Or.inl ⟨by rfl, ?_⟩) ?_ ?_
  rotate_left
  ·intro w'
   go_simp
   with_reducible rfl
  rotate_left
  ·simp only [Act.put, List.setIfInBounds_toArray, List.set_cons_zero, List.set_cons_succ, zm, zq]
   rfl
  refine ko (i := 19) (N := (some 2)) (v := ?_) (a' := ?_) #[true, true, true, true, true, true, true, true, true, true, true, true, true, true, true, true, true, true, true, true] rfl rfl (xw HT_.out yj) (fun _ _ _ h => h) (Or.inl ⟨by rfl, ?_⟩) ?_ ?_
  rotate_left
  ·intro w'
   go_simp
   with_reducible rfl
  rotate_left
  ·simp only [Act.put, List.setIfInBounds_toArray, List.set_cons_zero, List.set_cons_succ, zm, zq]
   rfl
  refine done_ (done_of HT_.out yj) ?_
  try go_wp2
  go_ret
  exact ⟨rfl, HB.out⟩
 | true =>
  have HM := qa.mk hm
  clear hm
  have KC := qa.mk (show keyS c = keyS a from (L_inj (by have h1 := KAC.out; rw [HM.out, toList_L, toList_L] at h1; exact (beq_iff_eq.1 h1).symm)))
  have hb0 : Below (W7).heap.size W7 _ := (show Below W7.heap.size W7 W7.drew from below_drew (Below.refl _ _))
  have di := DI.out.below hb0
  have hb := qp HB.out hb0
  have hk := KeepBut.of_below hb0 g none
  clear hb0
  replace DI := qa.mk di
  replace HB := qa.mk hb
  replace BKa := qa.mk (KeepBut.blk hk BKa.out NEa.out yt)
  replace BKb := qa.mk (KeepBut.blk hk BKb.out NEb.out yt)
  replace BKc := qa.mk (KeepBut.blk hk BKc.out NEc.out yt)
  replace NAa := qa.mk (NAa.out.keep (KeepT.of hk))
  replace NAb := qa.mk (NAb.out.keep (KeepT.of hk))
  replace NAc := qa.mk (NAc.out.keep (KeepT.of hk))
  clear di hb hk
  refine start_ (n := 20) (S := fun w' => w'.cell? ⟨ga, 0, none⟩ = some (.slice Aa a.length ca) ∧ w'.cell? ⟨gb, 0, none⟩ = some (.slice Ab b.length cb) ∧ w'.cell? ⟨gc, 0, none⟩ = some (.slice Ac c.length cc)) (ds := []) #[false, false, false, false, false, false, false, false, false, false, false, false, false, false, false, false, false, false, false, false] yj rfl rfl ⟨((ql BKa.out 0).trans rfl), ((ql BKb.out 0).trans rfl), ((ql BKc.out 0).trans rfl)⟩ (fun hHeld => ?_); refine with_tabW klaw.tab6 klaw.bits6 (fun HT_ HW_ => ?_)
  generalize W7.drew = W108 at DI HB BKa BKb BKc NAa NAb NAc hHeld ⊢
  refine one_ (i := 0) (N := (some 20)) #[true, false, false, false, false, false, false, false, false, false, false, false, false, false, false, false, false, false, false, false] rfl rfl (je HT_.out yj) (by decide) (fun K hK => ?_)
  refine goes_ Tryz.func8 yj rfl #[] (by rfl) rfl rfl yc ?_
  refine (awakeT _ (LibHeld.below HG.out HB.out)).mono ?_
  rintro e_ W109 ⟨rfl, hq⟩
  refine ⟨_, rfl, ?_⟩
  have di := DI.out.below hq
  have hb := qp HB.out hq
  have hk := KeepBut.of_below hq g none
  clear hq
  replace DI := qa.mk di
  replace HB := qa.mk hb
  replace BKa := qa.mk (KeepBut.blk hk BKa.out NEa.out yt)
  replace BKb := qa.mk (KeepBut.blk hk BKb.out NEb.out yt)
  replace BKc := qa.mk (KeepBut.blk hk BKc.out NEc.out yt)
  replace NAa := qa.mk (NAa.out.keep (KeepT.of hk))
  replace NAb := qa.mk (NAb.out.keep (KeepT.of hk))
  replace NAc := qa.mk (NAc.out.keep (KeepT.of hk))
  clear di hb hk
  refine hK.out _ _ ⟨((ql BKa.out 0).trans rfl), ((ql BKb.out 0).trans rfl), ((ql BKc.out 0).trans rfl)⟩ (fun hHeld => ?_)
  clear hK K
  refine norm_ (a' := ?_) ?_ ?_
  rotate_left
  ·show Act.put _ (some 20) _ = _
   simp only [Act.put, List.setIfInBounds_toArray, List.set_cons_zero, List.set_cons_succ, zm, zq]
   rfl
  refine ko (i := 1) (N := (some 21)) (v := ?_) (a' := ?_) #[true, true, false, false, false, false, false, false, false, false, false, false, false, false, false, false, false, false, false, false] rfl rfl (xw HT_.out yj) (fun _ _ _ h => h) (Or.inl ⟨by rfl, ?_⟩) ?_ ?_
  rotate_left
  ·intro w'
   go_simp
   with_reducible rfl
  rotate_left
  ·simp only [Act.put, List.setIfInBounds_toArray, List.set_cons_zero, List.set_cons_succ, zm, zq]
   rfl
  refine jb (i := 2) (N := (some 22)) (v := ?_) (a' := ?_) #[true, true, true, false, false, false, false, false, false, false, false, false, false, false, false, false, false, false, false, false] rfl rfl (kf HT_.out HW_.out yj) (fun _ _ _ h => h) (Or.inl ⟨by rfl, ?_⟩) hHeld ?_ ?_
  rotate_left
  ·rintro w' ⟨s0, s1, s2⟩
   go_simp
   with_reducible rfl
  rotate_left
  ·simp only [Act.put, List.setIfInBounds_toArray, List.set_cons_zero, List.set_cons_succ, zm, zq]
   rfl
  refine jb (i := 4) (N := (some 24)) (v := ?_) (a' := ?_) #[true, true, true, false, true, false, false, false, false, false, false, false, false, false, false, false, false, false, false, false] rfl rfl (kf HT_.out HW_.out yj) (fun _ _ _ h => h) (Or.inl ⟨by rfl, ?_⟩) hHeld ?_ ?_
  rotate_left
  ·rintro w' ⟨s0, s1, s2⟩
   go_simp
   with_reducible rfl
  rotate_left
  ·simp only [Act.put, List.setIfInBounds_toArray, List.set_cons_zero, List.set_cons_succ, zm, zq]
   rfl
  refine one_ (i := 3) (N := (some 23)) #[true, true, true, true, true, false, false, false, false, false, false, false, false, false, false, false, false, false, false, false] rfl rfl (je HT_.out yj) (by decide) (fun K hK => ?_)
  refine goes_ Tryz.func28 yj rfl #[.agg #[.slice Aa a.length ca]] (by rfl) rfl rfl yc ?_
  refine (keyT _ NAa.out PYa.out rfl).mono ?_
  rintro e_ W110 ⟨rfl, hq⟩
  refine ⟨_, rfl, ?_⟩
  have di := DI.out.below hq
  have hb := qp HB.out hq
  have hk := KeepBut.of_below hq g none
  clear hq
  replace DI := qa.mk di
  replace HB := qa.mk hb
  replace BKa := qa.mk (KeepBut.blk hk BKa.out NEa.out yt)
  replace BKb := qa.mk (KeepBut.blk hk BKb.out NEb.out yt)
  replace BKc := qa.mk (KeepBut.blk hk BKc.out NEc.out yt)
  replace NAa := qa.mk (NAa.out.keep (KeepT.of hk))
  replace NAb := qa.mk (NAb.out.keep (KeepT.of hk))
  replace NAc := qa.mk (NAc.out.keep (KeepT.of hk))
  clear di hb hk
  refine hK.out _ _ ⟨((ql BKa.out 0).trans rfl), ((ql BKb.out 0).trans rfl), ((ql BKc.out 0).trans rfl)⟩ (fun hHeld => ?_)
  clear hK K
  refine norm_ (a' := ?_) ?_ ?_
  rotate_left
  ·show Act.put _ (some 23) _ = _
   simp only [Act.put, List.setIfInBounds_toArray, List.set_cons_zero, List.set_cons_succ, zm, zq]
   rfl
  refine one_ (i := 5) (N := (some 25)) #[true, true, true, true, true, true, false, false, false, false, false, false, false, false, false, false, false, false, false, false] rfl rfl (je HT_.out yj) (by decide) (fun K hK => ?_)
  refine goes_ Tryz.func28 yj rfl #[.agg #[.slice Ab b.length cb]] (by rfl) rfl rfl yc ?_
  refine (keyT _ NAb.out PYb.out KAB.out).mono ?_
  rintro e_ W111 ⟨rfl, hq⟩
  refine ⟨_, rfl, ?_⟩
  have di := DI.out.below hq
  have hb := qp HB.out hq
  have hk := KeepBut.of_below hq g none
  clear hq
  replace DI := qa.mk di
  replace HB := qa.mk hb
  replace BKa := qa.mk (KeepBut.blk hk BKa.out NEa.out yt)
  replace BKb := qa.mk (KeepBut.blk hk BKb.out NEb.out yt)
  replace BKc := qa.mk (KeepBut.blk hk BKc.out NEc.out yt)
  replace NAa := qa.mk (NAa.out.keep (KeepT.of hk))
  replace NAb := qa.mk (NAb.out.keep (KeepT.of hk))
  replace NAc := qa.mk (NAc.out.keep (KeepT.of hk))
  clear di hb hk
  refine hK.out _ _ ⟨((ql BKa.out 0).trans rfl), ((ql BKb.out 0).trans rfl), ((ql BKc.out 0).trans rfl)⟩ (fun hHeld => ?_)
  clear hK K
  refine norm_ (a' := ?_) ?_ ?_
  rotate_left
  ·show Act.put _ (some 25) _ = _
   simp only [Act.put, List.setIfInBounds_toArray, List.set_cons_zero, List.set_cons_succ, zm, zq]
   rfl
  refine ko (i := 6) (N := (some 26)) (v := ?_) (a' := ?_) #[true, true, true, true, true, true, true, false, false, false, false, false, false, false, false, false, false, false, false, false] rfl rfl (xw HT_.out yj) (fun _ _ _ h => h) (Or.inl ⟨by rfl, ?_⟩) ?_ ?_
  rotate_left
  ·intro w'
   go_simp
   with_reducible rfl
  rotate_left
  ·simp only [Act.put, List.setIfInBounds_toArray, List.set_cons_zero, List.set_cons_succ, zm, zq]
   rfl
  refine ko (i := 7) (N := (some 27)) (v := ?_) (a' := ?_) #[true, true, true, true, true, true, true, true, false, false, false, false, false, false, false, false, false, false, false, false] rfl rfl (xw HT_.out yj) (fun _ _ _ h => h) (Or.inl ⟨by rfl, ?_⟩) ?_ ?_
  rotate_left
  ·intro w'
   go_simp
   with_reducible rfl
  rotate_left
  ·simp only [Act.put, List.setIfInBounds_toArray, List.set_cons_zero, List.set_cons_succ, zm, zq]
   rfl
  refine ko (i := 8) (N := (some 28)) (v := ?_) (a' := ?_) #[true, true, true, true, true, true, true, true, true, false, false, false, false, false, false, false, false, false, false, false] rfl rfl (xw HT_.out yj) (fun _ _ _ h => h) (Or.inl ⟨by rfl, ?_⟩) ?_ ?_
  rotate_left
  ·intro w'
   go_simp
   with_reducible rfl
  rotate_left
  ·simp only [Act.put, List.setIfInBounds_toArray, List.set_cons_zero, List.set_cons_succ, zm, zq]
   rfl
  refine jb (i := 9) (N := (some 29)) (v := ?_) (a' := ?_) #[true, true, true, true, true, true, true, true, true, true, false, false, false, false, false, false, false, false, false, false] rfl rfl (kf HT_.out HW_.out yj) (fun _ _ _ h => h) (Or.inl ⟨by rfl, ?_⟩) hHeld ?_ ?_
  rotate_left
  ·rintro w' ⟨s0, s1, s2⟩
   go_simp
   with_reducible rfl
  rotate_left
  ·simp only [Act.put, List.setIfInBounds_toArray, List.set_cons_zero, List.set_cons_succ, zm, zq]
   rfl
  refine jb (i := 11) (N := (some 31)) (v := ?_) (a' := ?_) #[true, true, true, true, true, true, true, true, true, true, false, true, false, false, false, false, false, false, false, false] rfl rfl (kf HT_.out HW_.out yj) (fun _ _ _ h => h) (Or.inl ⟨by rfl, ?_⟩) hHeld ?_ ?_
  rotate_left
  ·rintro w' ⟨s0, s1, s2⟩
   go_simp
   with_reducible rfl
  rotate_left
  ·simp only [Act.put, List.setIfInBounds_toArray, List.set_cons_zero, List.set_cons_succ, zm, zq]
   rfl
  refine jb (i := 14) (N := (some 34)) (v := ?_) (a' := ?_) #[true, true, true, true, true, true, true, true, true, true, false, true, false, false, true, false, false, false, false, false] rfl rfl (kf HT_.out HW_.out yj) (fun _ _ _ h => h) (Or.inl ⟨by rfl, ?_⟩) hHeld ?_ ?_
  rotate_left
  ·rintro w' ⟨s0, s1, s2⟩
   go_simp
   with_reducible rfl
  rotate_left
  ·simp only [Act.put, List.setIfInBounds_toArray, List.set_cons_zero, List.set_cons_succ, zm, zq]
   rfl
  refine jb (i := 15) (N := (some 35)) (v := ?_) (a' := ?_) #[true, true, true, true, true, true, true, true, true, true, false, true, false, false, true, true, false, false, false, false] rfl rfl (kf HT_.out HW_.out yj) (fun _ _ _ h => h) (Or.inl ⟨by rfl, ?_⟩) hHeld ?_ ?_
  rotate_left
  ·rintro w' ⟨s0, s1, s2⟩
   go_simp
   with_reducible rfl
  rotate_left
  ·simp only [Act.put, List.setIfInBounds_toArray, List.set_cons_zero, List.set_cons_succ, zm, zq]
   rfl
  refine one_ (i := 10) (N := (some 30)) #[true, true, true, true, true, true, true, true, true, true, true, true, false, false, true, true, false, false, false, false] rfl rfl (je HT_.out yj) (by decide) (fun K hK => ?_)
  refine goes_ Tryz.func28 yj rfl #[.agg #[.slice Aa a.length ca]] (by rfl) rfl rfl yc ?_
  refine (keyT _ NAa.out PYa.out rfl).mono ?_
  rintro e_ W112 ⟨rfl, hq⟩
  refine ⟨_, rfl, ?_⟩
  have di := DI.out.below hq
  have hb := qp HB.out hq
  have hk := KeepBut.of_below hq g none
  clear hq
  replace DI := qa.mk di
  replace HB := qa.mk hb
  replace BKa := qa.mk (KeepBut.blk hk BKa.out NEa.out yt)
  replace BKb := qa.mk (KeepBut.blk hk BKb.out NEb.out yt)
  replace BKc := qa.mk (KeepBut.blk hk BKc.out NEc.out yt)
  replace NAa := qa.mk (NAa.out.keep (KeepT.of hk))
  replace NAb := qa.mk (NAb.out.keep (KeepT.of hk))
  replace NAc := qa.mk (NAc.out.keep (KeepT.of hk))
  clear di hb hk
  refine hK.out _ _ ⟨((ql BKa.out 0).trans rfl), ((ql BKb.out 0).trans rfl), ((ql BKc.out 0).trans rfl)⟩ (fun hHeld => ?_)
  clear hK K
  refine norm_ (a' := ?_) ?_ ?_
  rotate_left
  ·show Act.put _ (some 30) _ = _
   simp only [Act.put, List.setIfInBounds_toArray, List.set_cons_zero, List.set_cons_succ, zm, zq]
   rfl
  refine one_ (i := 12) (N := (some 32)) #[true, true, true, true, true, true, true, true, true, true, true, true, true, false, true, true, false, false, false, false] rfl rfl (je HT_.out yj) (by decide) (fun K hK => ?_)
  refine goes_ Tryz.func28 yj rfl #[.agg #[.slice Ac c.length cc]] (by rfl) rfl rfl yc ?_
  refine (keyT _ NAc.out PYc.out KC.out).mono ?_
  rintro e_ W113 ⟨rfl, hq⟩
  refine ⟨_, rfl, ?_⟩
  have di := DI.out.below hq
  have hb := qp HB.out hq
  have hk := KeepBut.of_below hq g none
  clear hq
  replace DI := qa.mk di
  replace HB := qa.mk hb
  replace BKa := qa.mk (KeepBut.blk hk BKa.out NEa.out yt)
  replace BKb := qa.mk (KeepBut.blk hk BKb.out NEb.out yt)
  replace BKc := qa.mk (KeepBut.blk hk BKc.out NEc.out yt)
  replace NAa := qa.mk (NAa.out.keep (KeepT.of hk))
  replace NAb := qa.mk (NAb.out.keep (KeepT.of hk))
  replace NAc := qa.mk (NAc.out.keep (KeepT.of hk))
  clear di hb hk
  refine hK.out _ _ ⟨((ql BKa.out 0).trans rfl), ((ql BKb.out 0).trans rfl), ((ql BKc.out 0).trans rfl)⟩ (fun hHeld => ?_)
  clear hK K
  refine norm_ (a' := ?_) ?_ ?_
  rotate_left
  ·show Act.put _ (some 32) _ = _
   simp only [Act.put, List.setIfInBounds_toArray, List.set_cons_zero, List.set_cons_succ, zm, zq]
   rfl
  refine ko (i := 13) (N := (some 33)) (v := ?_) (a' := ?_) #[true, true, true, true, true, true, true, true, true, true, true, true, true, true, true, true, false, false, false, false] rfl rfl (xw HT_.out yj) (fun _ _ _ h => h) (Or.inl ⟨by rfl, ?_⟩) ?_ ?_
  rotate_left
  ·intro w'
   go_simp
   with_reducible rfl
  rotate_left
  ·simp only [Act.put, List.setIfInBounds_toArray, List.set_cons_zero, List.set_cons_succ, zm, zq]
   rfl
  refine one_ (i := 16) (N := (some 36)) #[true, true, true, true, true, true, true, true, true, true, true, true, true, true, true, true, true, false, false, false] rfl rfl (je HT_.out yj) (by decide) (fun K hK => ?_)
  refine goes_ Tryz.func26 yj rfl #[.agg #[.slice Aa a.length ca], .agg #[.slice Ac c.length cc]] (by rfl) rfl rfl yc ?_
  refine (matchR _ NAa.out NAc.out FIa.out FIc.out HM.out).mono ?_
  rintro e_ W114 ⟨rfl, hq⟩
  refine ⟨_, rfl, ?_⟩
  have di := DI.out.below hq
  have hb := qp HB.out hq
  have hk := KeepBut.of_below hq g none
  clear hq
  replace DI := qa.mk di
  replace HB := qa.mk hb
  replace BKa := qa.mk (KeepBut.blk hk BKa.out NEa.out yt)
  replace BKb := qa.mk (KeepBut.blk hk BKb.out NEb.out yt)
  replace BKc := qa.mk (KeepBut.blk hk BKc.out NEc.out yt)
  replace NAa := qa.mk (NAa.out.keep (KeepT.of hk))
  replace NAb := qa.mk (NAb.out.keep (KeepT.of hk))
  replace NAc := qa.mk (NAc.out.keep (KeepT.of hk))
  clear di hb hk
  refine hK.out _ _ ⟨((ql BKa.out 0).trans rfl), ((ql BKb.out 0).trans rfl), ((ql BKc.out 0).trans rfl)⟩ (fun hHeld => ?_)
  clear hK K
  refine norm_ (a' := ?_) ?_ ?_
  rotate_left
  ·show Act.put _ (some 36) _ = _
   simp only [Act.put, List.setIfInBounds_toArray, List.set_cons_zero, List.set_cons_succ, zm, zq]
   rfl
  refine ko (i := 17) (N := (some 37)) (v := ?_) (a' := ?_) #[true, true, true, true, true, true, true, true, true, true, true, true, true, true, true, true, true, true, false, false] rfl rfl (xw HT_.out yj) (fun _ _ _ h => h) (Or.inl ⟨by rfl, ?_⟩) ?_ ?_
  rotate_left
  ·intro w'
   go_simp
   with_reducible rfl
  rotate_left
  ·simp only [Act.put, List.setIfInBounds_toArray, List.set_cons_zero, List.set_cons_succ, zm, zq]
   rfl
  refine ko (i := 18) (N := (some 38)) (v := ?_) (a' := ?_) #[true, true, true, true, true, true, true, true, true, true, true, true, true, true, true, true, true, true, true, false] rfl rfl (xw HT_.out yj) (fun _ _ _ h => h) (Or.inl ⟨by rfl, ?_⟩) ?_ ?_
  rotate_left
  ·intro w'
   go_simp
   with_reducible rfl
  rotate_left
  ·simp only [Act.put, List.setIfInBounds_toArray, List.set_cons_zero, List.set_cons_succ, zm, zq]
   rfl
  refine ko (i := 19) (N := (some 2)) (v := ?_) (a' := ?_) #[true, true, true, true, true, true, true, true, true, true, true, true, true, true, true, true, true, true, true, true] rfl rfl (xw HT_.out yj) (fun _ _ _ h => h) (Or.inl ⟨by rfl, ?_⟩) ?_ ?_
  rotate_left
  ·intro w'
   go_simp
   with_reducible rfl
  rotate_left
  ·simp only [Act.put, List.setIfInBounds_toArray, List.set_cons_zero, List.set_cons_succ, zm, zq]
   rfl
  refine done_ (done_of HT_.out yj) ?_
  try go_wp2
  go_ret
  exact ⟨rfl, HB.out⟩
def jd.Pure : Prop := True
theorem jd.walk (P : jd.Pure) (a0 : Option Addr) (len0 cap0 : Nat) (z0 : List Int) (w : World) (hG : LibHeld w) (w0 : (a0 = none ∧ len0 = 0 ∧ cap0 = 0 ∧ z0 = []) ∨ ∃ x, a0 = some x ∧ len0 ≤ cap0 ∧ cap0 ≤ maxLen ∧ z0.length = cap0 ∧ (∀ i, i < z0.length → w.cell? (x.add i) = some (.int .i64 (z0.getD i 0))) ∧ ∀ n ∈ z0, (Lit.int .i64 n).wf = true) (y0 : len0 * 8 ≤ 140737488351232) :
  Calls Tryz.prog 6 #[.slice a0 len0 cap0] w fun e w' => e = .returned (.bool true) ∧ Below w.heap.size w w' := by
 obtain ⟨l0, rfl, hr0, hm0, hw0, hc0⟩ := ReadsInt.ofRowC w0
 exact keylaw_calls _ _ l0 w hG (Kd.C_of_reads (d := (0 : Int)) (h1 := fun _ => rfl) hr0) hc0 yg
end Go.Proofs.YthdoohfdminfgaaGreatDoor.C
namespace Go.Proofs.YthdoohfdminfgaaGreatDoor.Pure
open Go.Proofs.YthdoohfdminfgaaGreatDoor.C
theorem NameKey : jd.Pure := trivial
end Go.Proofs.YthdoohfdminfgaaGreatDoor.Pure
end
section
namespace Go.Proofs.YthdoohfdminfgaaGreatDoorW.PrintWords
open Go.ChangeShapes Go.WideShapes
theorem sized_ints {H : Type} {enc : TypeId × Value → H} {P : Program} {W : World} {base : Nat} {spare : Nat → Bool} {held : Bool} {t e : TypeId} {k : IntKind} {a : Option Addr} {len cap : Nat} {d : DataW H} {ps : List MemPlace} {ts : List TypeId} {ds : List (DataW H)} {j : Nat}
  (hsz : (DataW.weightsEach P ts ds).all (· ≤ reachBytes) = true) (ht : ts[j]? = some t) (hd : ds[j]? = some d) (hu : P.underlying t = some (.slice e)) (he : P.underlying e = some (.int k)) (hc : P.cellsOf e = 1) {B : Nat} (hB : P.bytesOf e = B)
  (h : DataW.Trod enc P W base spare held t (.slice a len cap) d ps) : len * B ≤ 140737488351232 := by
 obtain ⟨fuel, hf⟩ := h
 rcases open_ints hu he hc hf with ⟨hcs, _⟩ | ⟨x, l, c, zs, hcs, _, hl, _, hz, hx, _, _⟩
 ·simp [Value.cells] at hcs
  obtain ⟨rfl, rfl, rfl⟩ := hcs
  simp
 ·simp [Value.cells] at hcs
  obtain ⟨rfl, rfl, rfl⟩ := hcs
  obtain ⟨hx, _⟩ := Prod.mk.inj hx
  subst hx
  have z := sized_slice hsz ht hd hu
  rw [hB] at z
  have hl2 : len ≤ zs.length := by
   rw [hz]
   split
   ·exact hl
   ·exact Nat.le_refl _
  have h1 : (lits (H := H) k (zs.take len)).length + (lits (H := H) k (zs.drop len)).length = zs.length := by
   simp [lits]
   omega
  rw [h1] at z
  exact Nat.le_trans (Nat.mul_le_mul_right _ hl2) z
end Go.Proofs.YthdoohfdminfgaaGreatDoorW.PrintWords
end
