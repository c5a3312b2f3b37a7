/- Words, walks and plain laws that the claim rests on, gathered. -/
import Derived.OrdersHeld
import Derived.Deep.RegionHeld3
import Derived.Laws.BitsLemmas
import Derived.RowKit
import Derived.Lib.SplitLaws
import Derived.Below
import Derived.Deep.Draws
import Derived.Deep.AppendLies
import Derived.Maps.AppendAt
import Derived.OwnWalk
import Derived.Laws.BytesArg
import Derived.Laws.MakeOwn
import Derived.Laws.OwnMore
import Derived.Deep.OwnRows
import Derived.Tactics
import Derived.Lib.ConvBytes
import Derived.Laws.Slices
import Derived.WalkKit
import Derived.KernelRfl
import Derived.RowKit3
import Derived.Deep.LoopGhost
import Derived.Deep.QuietTactic
import Derived.BigQuiet
import Derived.WideLaws
import Derived.Deep.DeepCutAuto
import Derived.Deep.CutBlock
import Derived.Laws.Rows
import Derived.Lib.AppendStr
import Derived.ArgAppend
import Derived.Laws.IdiomCopy
import Derived.Shelf.Small.Strs
import Derived.Shelf.Strings.Search1
import Derived.Shelf.Strings.Search2
import Derived.Shelf.Strings.Search3
import Derived.Shelf.Strings.Cut
import Derived.Shelf.Strings.Count
import Derived.Shelf.LaysM
import Derived.Shelf.Strings.Shaped
import Derived.Shelf.Strings.Prefix
import Derived.Shelf.Strings.Split
import Derived.Shelf.Strings.SplitShaped
import Derived.Shelf.Unicode.DecodeSlow
import Derived.Test.YtjhlinifnjoefaaDoorProg
import Derived.Laws.StructEq
import Derived.WalkSpells
import Derived.Test.YtjhlinifnjoefaaDoorNO0
import Derived.Test.YtjhlinifnjoefaaDoorNO1
import Derived.Test.YtjhlinifnjoefaaDoorNO2
import Derived.Test.YtjhlinifnjoefaaDoorNO3
import Derived.Test.YtjhlinifnjoefaaDoorNO4
import Derived.Test.YtjhlinifnjoefaaDoorNO5
import Derived.Test.YtjhlinifnjoefaaDoorNO6
import Derived.Test.YtjhlinifnjoefaaDoorNO7
import Derived.Test.YtjhlinifnjoefaaDoorNO8
import Derived.Test.YtjhlinifnjoefaaDoorNO9
import Derived.Test.YtjhlinifnjoefaaDoorNO10
namespace Go.Proofs.YtjhlinifnjoefaaDoorW.PrintLast
end Go.Proofs.YtjhlinifnjoefaaDoorW.PrintLast
namespace Go.Proofs.YtjhlinifnjoefaaDoorW.PrintMore
end Go.Proofs.YtjhlinifnjoefaaDoorW.PrintMore
namespace Go.Proofs.YtjhlinifnjoefaaDoorW.PrintWords
end Go.Proofs.YtjhlinifnjoefaaDoorW.PrintWords
section
namespace Go.Proofs.YtjhlinifnjoefaaDoor.C
open Go.RowKit Go.Proofs.YtjhlinifnjoefaaDoorW.PrintWords Go.Proofs.YtjhlinifnjoefaaDoorW.PrintLast Go.Proofs.YtjhlinifnjoefaaDoorW.PrintMore Go.Proofs.YtjhlinifnjoefaaDoor.Pl
attribute [local go_sem] z8 z7 xf xe zu zv zz zy
set_option linter.unusedVariables false
set_option linter.unusedSimpArgs false
def order.T3 : Bool × List (List Nat × List Nat) := (true, [([], []), ([], []), ([1], [1]), ([], []), ([], []), ([4], [4]), ([5], [5]), ([6], [6]), ([3, 7], [3, 7]), ([2, 8], [2, 8]), ([9], [9]), ([0, 10, 8], [0, 10]), ([], []), ([12, 11, 11, 0, 1, 2, 3, 4, 5, 6, 7, 8, 9, 10, 11, 12], [11, 12])])
def order.B3 : List Nat := [0, 0, 2, 0, 0, 16, 48, 112, 248, 510, 1022, 2047, 0, 8191]
theorem order.tab3 : rtab .any (opsOf Tryd.f5 3) = order.T3 := by kernel_rfl
theorem order.bits3 : waitsOk order.T3.2 order.B3 = true := by kernel_rfl
def order.T4 : Bool × List (List Nat × List Nat) := (true, [([], []), ([], []), ([1], [1]), ([], []), ([], []), ([4], [4]), ([5], [5]), ([6], [6]), ([3, 7], [3, 7]), ([2, 8], [2, 8]), ([9], [9]), ([0, 10, 8], [0, 10]), ([], []), ([12, 11, 11, 0, 1, 2, 3, 4, 5, 6, 7, 8, 9, 10, 11, 12], [11, 12])])
def order.B4 : List Nat := [0, 0, 2, 0, 0, 16, 48, 112, 248, 510, 1022, 2047, 0, 8191]
theorem order.tab4 : rtab .any (opsOf Tryd.f5 4) = order.T4 := by kernel_rfl
theorem order.bits4 : waitsOk order.T4.2 order.B4 = true := by kernel_rfl
def order.T6 : Bool × List (List Nat × List Nat) := (true, [([], []), ([], []), ([0, 1], [0, 1]), ([], []), ([], []), ([3, 4, 2], [3, 4]), ([2, 5], [2, 5]), ([6, 5], [6]), ([7], [7]), ([7], [7]), ([8, 9, 7, 7], [7, 8, 9]), ([10, 7], [7, 10]), ([11, 10, 7], [7, 11]), ([12], [12]), ([12], [12]), ([13, 14, 12, 12], [12, 13, 14]), ([15, 15, 12], [12, 15]), ([16], [16]), ([16], [16]), ([17, 18, 16, 16], [16, 17, 18]), ([16, 19, 12], [12, 16, 19]), ([12, 20, 7], [7, 12, 20]), ([7, 21], [7, 21]), ([22, 19, 0, 1, 2, 3, 4, 5, 6, 7, 8, 9, 10, 11, 12, 13, 14, 15, 16, 17, 18, 19, 20, 21, 22], [22])])
def order.B6 : List Nat := [0, 0, 3, 0, 0, 31, 63, 127, 255, 255, 1023, 2047, 4095, 8191, 8191, 32767, 65535, 131071, 131071, 524287, 1048575, 2097151, 4194303, 8388607]
theorem order.tab6 : rtab .any (opsOf Tryd.f5 6) = order.T6 := by kernel_rfl
theorem order.bits6 : waitsOk order.T6.2 order.B6 = true := by kernel_rfl
def order.T7 : Bool × List (List Nat × List Nat) := (true, [([], []), ([0, 0], [0]), ([1], [1]), ([1], [1]), ([2, 3, 1, 1], [1, 2, 3]), ([1, 4], [1, 4]), ([5, 4], [5]), ([6], [6]), ([6], [6]), ([7, 8, 6, 6], [6, 7, 8]), ([6, 9], [6, 9]), ([10, 9], [10]), ([11], [11]), ([11], [11]), ([12, 13, 11, 11], [11, 12, 13]), ([11, 14], [11, 14]), ([15, 14], [15]), ([16], [16]), ([16], [16]), ([17, 18, 16, 16], [16, 17, 18]), ([16, 19], [16, 19]), ([20, 19], [20]), ([21], [21]), ([21, 22], [21, 22]), ([23, 21], [23]), ([24], [24]), ([24], [24]), ([25, 26, 24, 24], [24, 25, 26]), ([24], [24]), ([24], [24]), ([28, 29, 27, 24], [24, 28, 29]), ([30, 30, 24], [24, 30]), ([31], [31]), ([31], [31]), ([32, 33, 31, 31], [31, 32, 33]), ([31, 34, 24], [24, 31, 34]), ([27, 35, 24], [24, 27, 35]), ([24, 36], [24, 36]), ([37, 34, 0, 1, 2, 3, 4, 5, 6, 7, 8, 9, 10, 11, 12, 13, 14, 15, 16, 17, 18, 19, 20, 21, 22, 23, 24, 25, 26, 27, 28, 29, 30, 31, 32, 33, 34, 35, 36, 37], [37])])
def order.B7 : List Nat := [0, 1, 3, 3, 15, 31, 63, 127, 127, 511, 1023, 2047, 4095, 4095, 16383, 32767, 65535, 131071, 131071, 524287, 1048575, 2097151, 4194303, 8388607, 16777215, 33554431, 33554431, 134217727, 33554431, 33554431, 1073741823, 2147483647, 4294967295, 4294967295, 17179869183, 34359738367, 68719476735, 137438953471, 274877906943]
theorem order.tab7 : rtab .any (opsOf Tryd.f5 7) = order.T7 := by kernel_rfl
theorem order.bits7 : waitsOk order.T7.2 order.B7 = true := by kernel_rfl
set_option maxHeartbeats 16000000 in
set_option maxRecDepth 100000 in
theorem order_calls (A0 : Option Addr) (c0 : Nat) (l : List Int) (w : World) (hG : LibHeld w) (hl : Kd.C (Kd.int .i64) w A0 l.length l) (hc : l.length ≤ c0) (hL : l.length ≤ 140737488351232) :
  Calls Tryd.prog 5 #[.slice A0 l.length c0] w fun e w' => e = .returned (.bool true) ∧ Below w.heap.size w w' := by
 have hu24 := Tryd.underlying24
 have HG := qa.mk hG
 have HL := qa.mk hl
 have HC := qa.mk hc
 have HLL := qa.mk hL
 clear hG hl hc hL
 go_enter Tryd.func5, Tryd.ntmps5
 go_upto_region 2 with (go_at_call 11; refine (newT _ A0 c0 l HL.out HC.out HLL.out).mono ?_; rintro e W1 ⟨g, rfl, di, hb⟩; have DI := qa.mk di; have HB := qa.mk hb; clear di hb)
 go_upto_region 3 with (go_at_call 12; refine (nameT w _ DI.out HB.out).mono ?_; rintro e W1 ⟨Aa, ca, a, rfl, ti, rm, na, di, hb, hk⟩; replace DI := qa.mk di; replace HB := qa.mk hb; clear di hb hk; have NAa := qa.mk na; have TIa := qa.mk ti; have FIa := qa.mk (ti.fine (by omega)); clear na ti rm)
 obtain ⟨W2, hWW⟩ : ∃ W_, W_ = W1.alloc (Obj.cells #[.slice Aa a.length ca] 24) := ⟨_, rfl⟩
 rw [← hWW]
 have BKa := qa.mk (show W2.heap[W1.heap.size]? = some (.cells #[.slice Aa a.length ca] 24 (0, 0)) by rw [hWW]; exact heap_alloc_new _ _)
 have NEa := qa.mk (show W1.heap.size ≠ g from Nat.ne_of_gt DI.out.lt)
 have GEa := qa.mk (show w.heap.size ≤ W1.heap.size from HB.out.size)
 have hb0 : Below (W1).heap.size W1 _ := (show Below W1.heap.size W1 W2 by rw [hWW]; exact qc (Below.refl _ _) _)
 have di := DI.out.below hb0
 have hb := qk HB.out hb0
 have hk := KeepBut.of_below hb0 g none
 clear hb0
 replace DI := qa.mk di
 replace HB := qa.mk hb
 replace NAa := qa.mk (NAa.out.keep (KeepT.of hk))
 clear di hb hk
 clear hWW
 generalize W1.heap.size = ga at BKa NEa GEa  ⊢
 have cut0 := qa.mk (show 0 ≤ (a.length : Int) from by omega)
 have WW1 := qa.mk (show wrap64 ((a.length : Int) + 1) = (a.length : Int) + 1 by have := TIa.out.1; unfold wrap64; omega)
 have hb0 : Below (W2).heap.size W2 _ := (show Below W2.heap.size W2 W2.drew from kk (Below.refl _ _))
 have di := DI.out.below hb0
 have hb := qk HB.out hb0
 have hk := KeepBut.of_below hb0 g none
 clear hb0
 replace DI := qa.mk di
 replace HB := qa.mk hb
 replace BKa := qa.mk (KeepBut.blk hk BKa.out NEa.out (by simp))
 replace NAa := qa.mk (NAa.out.keep (KeepT.of hk))
 clear di hb hk
 refine start_ (n := 14) (S := fun w' => w'.cell? ⟨ga, 0, none⟩ = some (.slice Aa a.length ca)) (ds := [13]) #[false, false, false, false, false, false, false, false, false, false, false, false, false, false] (by kernel_rfl) rfl rfl ((qf BKa.out 0).trans rfl) (fun hHeld => ?_); refine with_tabW order.tab3 order.bits3 (fun HT_ HW_ => ?_)
 generalize W2.drew = W3 at DI HB BKa NAa hHeld ⊢
 refine zn (i := 0) (N := (some 13)) (v := ?_) (a' := ?_) #[true, false, false, false, false, false, false, false, false, false, false, false, false, false] rfl rfl (q9 HT_.out (by kernel_rfl)) (fun _ _ _ h => h) (Or.inl ⟨by rfl, ?_⟩) ?_ ?_
 rotate_left
 ·intro w'
  go_simp
  with_reducible rfl
 rotate_left
 ·simp only [Act.put, List.setIfInBounds_toArray, List.set_cons_zero, List.set_cons_succ, qt, qu]
  rfl
 refine zn (i := 1) (N := (some 14)) (v := ?_) (a' := ?_) #[true, true, false, false, false, false, false, false, false, false, false, false, false, false] rfl rfl (q9 HT_.out (by kernel_rfl)) (fun _ _ _ h => h) (Or.inl ⟨by rfl, ?_⟩) ?_ ?_
 rotate_left
 ·intro w'
  go_simp
  with_reducible rfl
 rotate_left
 ·simp only [Act.put, List.setIfInBounds_toArray, List.set_cons_zero, List.set_cons_succ, qt, qu]
  rfl
 refine zn (i := 3) (N := (some 16)) (v := ?_) (a' := ?_) #[true, true, false, true, false, false, false, false, false, false, false, false, false, false] rfl rfl (q9 HT_.out (by kernel_rfl)) (fun _ _ _ h => h) (Or.inl ⟨by rfl, ?_⟩) ?_ ?_
 rotate_left
 ·intro w'
  go_simp
  with_reducible rfl
 rotate_left
 ·simp only [Act.put, List.setIfInBounds_toArray, List.set_cons_zero, List.set_cons_succ, qt, qu]
  rfl
 refine zn (i := 4) (N := (some 17)) (v := ?_) (a' := ?_) #[true, true, false, true, true, false, false, false, false, false, false, false, false, false] rfl rfl (q9 HT_.out (by kernel_rfl)) (fun _ _ _ h => h) (Or.inl ⟨by rfl, ?_⟩) ?_ ?_
 rotate_left
 ·intro w'
  go_simp
  with_reducible rfl
 rotate_left
 ·simp only [Act.put, List.setIfInBounds_toArray, List.set_cons_zero, List.set_cons_succ, qt, qu]
  rfl
 refine xc (i := 2) (N := (some 15)) (v := ?_) (a' := ?_) #[true, true, true, true, true, false, false, false, false, false, false, false, false, false] rfl rfl (zc HT_.out HW_.out (by kernel_rfl)) (fun _ _ _ h => h) (Or.inl ⟨by rfl, ?_⟩) hHeld ?_ ?_
 rotate_left
 ·rintro w' s0
  go_simp
  with_reducible rfl
 rotate_left
 ·simp only [Act.put, List.setIfInBounds_toArray, List.set_cons_zero, List.set_cons_succ, qt, qu]
  rfl
 refine xc (i := 5) (N := (some 18)) (v := ?_) (a' := ?_) #[true, true, true, true, true, true, false, false, false, false, false, false, false, false] rfl rfl (zc HT_.out HW_.out (by kernel_rfl)) (fun _ _ _ h => h) (Or.inl ⟨by rfl, ?_⟩) hHeld ?_ ?_
 rotate_left
 ·rintro w' s0
  go_simp
  with_reducible rfl
 rotate_left
 ·simp only [Act.put, List.setIfInBounds_toArray, List.set_cons_zero, List.set_cons_succ, qt, qu]
  rfl
 refine zn (i := 6) (N := (some 19)) (v := ?_) (a' := ?_) #[true, true, true, true, true, true, true, false, false, false, false, false, false, false] rfl rfl (q9 HT_.out (by kernel_rfl)) (fun _ _ _ h => h) (Or.inl ⟨by rfl, ?_⟩) ?_ ?_
 rotate_left
 ·intro w'
  go_simp
  with_reducible rfl
 rotate_left
 ·simp only [Act.put, List.setIfInBounds_toArray, List.set_cons_zero, List.set_cons_succ, qt, qu]
  rfl
 refine zn (i := 7) (N := (some 20)) (v := ?_) (a' := ?_) #[true, true, true, true, true, true, true, true, false, false, false, false, false, false] rfl rfl (q9 HT_.out (by kernel_rfl)) (fun _ _ _ h => h) (Or.inl ⟨by rfl, ?_⟩) ?_ ?_
 rotate_left
 ·intro w'
  go_simp
  with_reducible rfl
 rotate_left
 ·simp only [Act.put, List.setIfInBounds_toArray, List.set_cons_zero, List.set_cons_succ, qt, qu]
  rfl
 refine join_ (σ := Nat × Option Addr × Nat × List (List S26) × Nat) 1 #[true, true, true, true, true, true, true, true, true, true, true, true, true, false] (fun s_ => [(21, .int .i64 (s_.1 : Int)), (22, .slice Aa s_.1 ca), (23, .agg #[.slice Aa s_.1 ca]), (24, .agg #[.slice s_.2.1 s_.2.2.2.1.length s_.2.2.1]), (5, .pointer (some ⟨s_.2.2.2.2, 0, none⟩))]) (fun s_ w' => (s_.1 ≤ a.length ∧ SpN (a.take s_.1) s_.2.2.2.1 (a.take s_.1).length ∧ NameAt g w' s_.2.1 s_.2.2.1 s_.2.2.2.1 ∧ s_.2.2.2.2 ≠ g ∧ w'.heap[s_.2.2.2.2]? = some (.cells #[.slice none 0 0] 24 (0, 0)) ∧ DK w w' g ∧ Below w.heap.size w w' ∧ w.heap.size ≤ s_.2.2.2.2 ∧ ga ≠ s_.2.2.2.2) ∧ w'.heap[ga]? = some (.cells #[.slice Aa a.length ca] 24 (0, 0)) ∧ NameAt g w' Aa ca a) ?_ ?_
 rotate_left
 ·intro hCont
  refine two_ (i := 8) (j := 12) (Ni := (some 21)) (Nj := (some 5)) #[true, true, true, true, true, true, true, true, true, false, false, false, false, false] #[true, true, true, true, true, true, true, true, false, false, false, false, true, false] rfl rfl rfl rfl (two_of HT_.out (by kernel_rfl)) (by decide) (by decide) (fun K hK => ?_) (fun K hK => ?_)
  ·skip
   refine xx Tryd.func14 (by kernel_rfl) rfl #[.pointer (some ⟨g, 0, none⟩), .int .i64 (wrap64 ((a.length : Int) + 1))] (by rfl) rfl rfl (by (try simp only [List.map_toArray, List.map_cons, List.map_nil]); first | done | rfl | (simp only [List.length_drop, List.length_take]; rfl)) ?_
   have hcl := next_weak g ((a.length : Int) + 1) (by have := cut0.out; omega) (by have := TIa.out.1; omega) w _ DI.out HB.out
   rw [show #[Value.pointer (some ⟨g, 0, none⟩), .int .i64 ((a.length : Int) + 1)] = #[Value.pointer (some ⟨g, 0, none⟩), .int .i64 (wrap64 ((a.length : Int) + 1))] from by rw [WW1.out]] at hcl
   refine hcl.mono ?_
   clear hcl
   rintro e_ W44 ⟨j0, rfl, hj0, hj1, di, hb, hk⟩
   refine ⟨_, rfl, ?_⟩
   replace DI := qa.mk di
   replace HB := qa.mk hb
   replace BKa := qa.mk (KeepBut.blk hk BKa.out NEa.out (by simp))
   replace NAa := qa.mk (NAa.out.keep (KeepT.of hk))
   clear di hb hk
   obtain ⟨j, rfl⟩ := Int.eq_ofNat_of_zero_le hj0
   have hjl : j ≤ a.length := by omega
   have HJ := qa.mk hjl
   have q0 : (0 ≤ (j : Int)) = True := eq_true (by omega)
   have q1 : ((j : Int) ≤ (ca : Int)) = True := eq_true (by have := NAa.out.cap; omega)
   clear hj0 hj1 hjl
   refine hK.out _ _ ((qf BKa.out 0).trans rfl) (fun hHeld => ?_)
   clear hK K
   refine xk (a' := ?_) ?_ ?_
   rotate_left
   ·show Act.put _ (some 21) _ = _
    simp only [Act.put, List.setIfInBounds_toArray, List.set_cons_zero, List.set_cons_succ, qt, qu]
    rfl
   refine zn (i := 9) (N := (some 22)) (v := ?_) (a' := ?_) #[true, true, true, true, true, true, true, true, true, true, false, false, false, false] rfl rfl (q9 HT_.out (by kernel_rfl)) (fun _ _ _ h => h) (Or.inl ⟨by rfl, ?_⟩) ?_ ?_
   rotate_left
   ·intro w'
    go_simp
    with_reducible rfl
   rotate_left
   ·simp only [Act.put, List.setIfInBounds_toArray, List.set_cons_zero, List.set_cons_succ, qt, qu]
    rfl
   refine zn (i := 10) (N := (some 23)) (v := ?_) (a' := ?_) #[true, true, true, true, true, true, true, true, true, true, true, false, false, false] rfl rfl (q9 HT_.out (by kernel_rfl)) (fun _ _ _ h => h) (Or.inl ⟨by rfl, ?_⟩) ?_ ?_
   rotate_left
   ·intro w'
    go_simp
    with_reducible rfl
   rotate_left
   ·simp only [Act.put, List.setIfInBounds_toArray, List.set_cons_zero, List.set_cons_succ, qt, qu]
    rfl
   refine two_ (i := 11) (j := 12) (Ni := (some 24)) (Nj := (some 5)) #[true, true, true, true, true, true, true, true, true, true, true, true, false, false] #[true, true, true, true, true, true, true, true, true, true, true, false, true, false] rfl rfl rfl rfl (two_of HT_.out (by kernel_rfl)) (by decide) (by decide) (fun K hK => ?_) (fun K hK => ?_)
   ·skip
    have nt := NAa.out.take j HJ.out
    have hlt_ : (a.take j).length = j := by rw [List.length_take]; have := HJ.out; omega
    have hcl := spellT w _ DI.out HB.out nt ((TIa.out.take j).short (by omega))
    rw [hlt_] at hcl
    refine xx Tryd.func13 (by kernel_rfl) rfl #[.pointer (some ⟨g, 0, none⟩), .agg #[.slice Aa j ca]] (by rfl) rfl rfl (by (try simp only [List.map_toArray, List.map_cons, List.map_nil]); first | done | rfl | (simp only [List.length_drop, List.length_take]; rfl)) ?_
    refine hcl.mono ?_
    rintro e_ W65 ⟨Ab, cb, b, rfl, sp, na, di, hb, hk⟩
    refine ⟨_, rfl, ?_⟩
    replace DI := qa.mk di
    replace HB := qa.mk hb
    replace BKa := qa.mk (KeepBut.blk hk BKa.out NEa.out (by simp))
    replace NAa := qa.mk (NAa.out.keep (KeepT.of hk))
    clear di hb hk
    have NAb := qa.mk na
    have SPb := qa.mk sp
    clear na sp hcl nt hlt_
    refine hK.out _ _ ((qf BKa.out 0).trans rfl) (fun hHeld => ?_)
    clear hK K
    refine xk (a' := ?_) ?_ ?_
    rotate_left
    ·show Act.put _ (some 24) _ = _
     simp only [Act.put, List.setIfInBounds_toArray, List.set_cons_zero, List.set_cons_succ, qt, qu]
     rfl
    refine one_ (i := 12) (N := (some 5)) #[true, true, true, true, true, true, true, true, true, true, true, true, true, false] rfl rfl (xn HT_.out (by kernel_rfl)) (by decide) (fun K hK => ?_)
    refine value_ (w1 := ?_) (v := ?_) (by rfl) rfl ?_ ?_
    rotate_left 2
    ·go_simp
     constructor
     ·rfl
     ·rfl
    obtain ⟨W66, hWW⟩ : ∃ W_, W_ = W65.alloc (Obj.cells #[.slice none 0 0] 24) := ⟨_, rfl⟩
    rw [← hWW]
    have BKb0 := qa.mk (show W66.heap[W65.heap.size]? = some (.cells #[.slice none 0 0] 24 (0, 0)) by rw [hWW]; exact heap_alloc_new _ _)
    have NEb0 := qa.mk (show W65.heap.size ≠ g from Nat.ne_of_gt DI.out.lt)
    have GEb0 := qa.mk (show w.heap.size ≤ W65.heap.size from HB.out.size)
    have Na_b0 := qa.mk (show ga ≠ W65.heap.size from Nat.ne_of_lt (zk BKa.out))
    have hb0 : Below (W65).heap.size W65 _ := (show Below W65.heap.size W65 W66 by rw [hWW]; exact qc (Below.refl _ _) _)
    have di := DI.out.below hb0
    have hb := qk HB.out hb0
    have hk := KeepBut.of_below hb0 g none
    clear hb0
    replace DI := qa.mk di
    replace HB := qa.mk hb
    replace BKa := qa.mk (KeepBut.blk hk BKa.out NEa.out (by simp))
    replace NAa := qa.mk (NAa.out.keep (KeepT.of hk))
    replace NAb := qa.mk (NAb.out.keep (KeepT.of hk))
    clear di hb hk
    clear hWW
    generalize W65.heap.size = gb0 at BKb0 NEb0 GEb0 Na_b0 ⊢
    refine hK.out _ _ ((qf BKa.out 0).trans rfl) (fun hHeld => ?_)
    clear hK K
    refine xk (a' := ?_) ?_ ?_
    rotate_left
    ·show Act.put _ (some 5) _ = _
     simp only [Act.put, List.setIfInBounds_toArray, List.set_cons_zero, List.set_cons_succ, qt, qu]
     rfl
    exact xk (by simp only [putAll, Act.put, List.setIfInBounds_toArray, List.set_cons_zero, List.set_cons_succ]) (hCont (j, Ab, cb, b, gb0) _ ⟨⟨HJ.out, by have := SPb.out; rwa [show (a.take j).length = j from by rw [List.length_take]; have := HJ.out; omega], NAb.out, NEb0.out, BKb0.out, DI.out, HB.out, GEb0.out, Na_b0.out⟩, BKa.out, NAa.out⟩)
   ·skip
    refine value_ (w1 := ?_) (v := ?_) (by rfl) rfl ?_ ?_
    rotate_left 2
    ·go_simp
     constructor
     ·rfl
     ·rfl
    obtain ⟨W65, hWW⟩ : ∃ W_, W_ = W44.alloc (Obj.cells #[.slice none 0 0] 24) := ⟨_, rfl⟩
    rw [← hWW]
    have BKb0 := qa.mk (show W65.heap[W44.heap.size]? = some (.cells #[.slice none 0 0] 24 (0, 0)) by rw [hWW]; exact heap_alloc_new _ _)
    have NEb0 := qa.mk (show W44.heap.size ≠ g from Nat.ne_of_gt DI.out.lt)
    have GEb0 := qa.mk (show w.heap.size ≤ W44.heap.size from HB.out.size)
    have Na_b0 := qa.mk (show ga ≠ W44.heap.size from Nat.ne_of_lt (zk BKa.out))
    have hb0 : Below (W44).heap.size W44 _ := (show Below W44.heap.size W44 W65 by rw [hWW]; exact qc (Below.refl _ _) _)
    have di := DI.out.below hb0
    have hb := qk HB.out hb0
    have hk := KeepBut.of_below hb0 g none
    clear hb0
    replace DI := qa.mk di
    replace HB := qa.mk hb
    replace BKa := qa.mk (KeepBut.blk hk BKa.out NEa.out (by simp))
    replace NAa := qa.mk (NAa.out.keep (KeepT.of hk))
    clear di hb hk
    clear hWW
    generalize W44.heap.size = gb0 at BKb0 NEb0 GEb0 Na_b0 ⊢
    refine hK.out _ _ ((qf BKa.out 0).trans rfl) (fun hHeld => ?_)
    clear hK K
    refine xk (a' := ?_) ?_ ?_
    rotate_left
    ·show Act.put _ (some 5) _ = _
     simp only [Act.put, List.setIfInBounds_toArray, List.set_cons_zero, List.set_cons_succ, qt, qu]
     rfl
    refine one_ (i := 11) (N := (some 24)) #[true, true, true, true, true, true, true, true, true, true, true, true, true, false] rfl rfl (xn HT_.out (by kernel_rfl)) (by decide) (fun K hK => ?_)
    have nt := NAa.out.take j HJ.out
    have hlt_ : (a.take j).length = j := by rw [List.length_take]; have := HJ.out; omega
    have hcl := spellT w _ DI.out HB.out nt ((TIa.out.take j).short (by omega))
    rw [hlt_] at hcl
    refine xx Tryd.func13 (by kernel_rfl) rfl #[.pointer (some ⟨g, 0, none⟩), .agg #[.slice Aa j ca]] (by rfl) rfl rfl (by (try simp only [List.map_toArray, List.map_cons, List.map_nil]); first | done | rfl | (simp only [List.length_drop, List.length_take]; rfl)) ?_
    refine hcl.mono ?_
    rintro e_ W66 ⟨Ab, cb, b, rfl, sp, na, di, hb, hk⟩
    refine ⟨_, rfl, ?_⟩
    replace DI := qa.mk di
    replace HB := qa.mk hb
    replace BKa := qa.mk (KeepBut.blk hk BKa.out NEa.out (by simp))
    replace BKb0 := qa.mk (KeepBut.blk hk BKb0.out NEb0.out (by simp))
    replace NAa := qa.mk (NAa.out.keep (KeepT.of hk))
    clear di hb hk
    have NAb := qa.mk na
    have SPb := qa.mk sp
    clear na sp hcl nt hlt_
    refine hK.out _ _ ((qf BKa.out 0).trans rfl) (fun hHeld => ?_)
    clear hK K
    refine xk (a' := ?_) ?_ ?_
    rotate_left
    ·show Act.put _ (some 24) _ = _
     simp only [Act.put, List.setIfInBounds_toArray, List.set_cons_zero, List.set_cons_succ, qt, qu]
     rfl
    exact xk (by simp only [putAll, Act.put, List.setIfInBounds_toArray, List.set_cons_zero, List.set_cons_succ]) (hCont (j, Ab, cb, b, gb0) _ ⟨⟨HJ.out, by have := SPb.out; rwa [show (a.take j).length = j from by rw [List.length_take]; have := HJ.out; omega], NAb.out, NEb0.out, BKb0.out, DI.out, HB.out, GEb0.out, Na_b0.out⟩, BKa.out, NAa.out⟩)
  ·skip
   refine value_ (w1 := ?_) (v := ?_) (by rfl) rfl ?_ ?_
   rotate_left 2
   ·go_simp
    constructor
    ·rfl
    ·rfl
   obtain ⟨W44, hWW⟩ : ∃ W_, W_ = W3.alloc (Obj.cells #[.slice none 0 0] 24) := ⟨_, rfl⟩
   rw [← hWW]
   have BKb0 := qa.mk (show W44.heap[W3.heap.size]? = some (.cells #[.slice none 0 0] 24 (0, 0)) by rw [hWW]; exact heap_alloc_new _ _)
   have NEb0 := qa.mk (show W3.heap.size ≠ g from Nat.ne_of_gt DI.out.lt)
   have GEb0 := qa.mk (show w.heap.size ≤ W3.heap.size from HB.out.size)
   have Na_b0 := qa.mk (show ga ≠ W3.heap.size from Nat.ne_of_lt (zk BKa.out))
   have hb0 : Below (W3).heap.size W3 _ := (show Below W3.heap.size W3 W44 by rw [hWW]; exact qc (Below.refl _ _) _)
   have di := DI.out.below hb0
   have hb := qk HB.out hb0
   have hk := KeepBut.of_below hb0 g none
   clear hb0
   replace DI := qa.mk di
   replace HB := qa.mk hb
   replace BKa := qa.mk (KeepBut.blk hk BKa.out NEa.out (by simp))
   replace NAa := qa.mk (NAa.out.keep (KeepT.of hk))
   clear di hb hk
   clear hWW
   generalize W3.heap.size = gb0 at BKb0 NEb0 GEb0 Na_b0 ⊢
   refine hK.out _ _ ((qf BKa.out 0).trans rfl) (fun hHeld => ?_)
   clear hK K
   refine xk (a' := ?_) ?_ ?_
   rotate_left
   ·show Act.put _ (some 5) _ = _
    simp only [Act.put, List.setIfInBounds_toArray, List.set_cons_zero, List.set_cons_succ, qt, qu]
    rfl
   refine one_ (i := 8) (N := (some 21)) #[true, true, true, true, true, true, true, true, true, false, false, false, true, false] rfl rfl (xn HT_.out (by kernel_rfl)) (by decide) (fun K hK => ?_)
   refine xx Tryd.func14 (by kernel_rfl) rfl #[.pointer (some ⟨g, 0, none⟩), .int .i64 (wrap64 ((a.length : Int) + 1))] (by rfl) rfl rfl (by (try simp only [List.map_toArray, List.map_cons, List.map_nil]); first | done | rfl | (simp only [List.length_drop, List.length_take]; rfl)) ?_
   have hcl := next_weak g ((a.length : Int) + 1) (by have := cut0.out; omega) (by have := TIa.out.1; omega) w _ DI.out HB.out
   rw [show #[Value.pointer (some ⟨g, 0, none⟩), .int .i64 ((a.length : Int) + 1)] = #[Value.pointer (some ⟨g, 0, none⟩), .int .i64 (wrap64 ((a.length : Int) + 1))] from by rw [WW1.out]] at hcl
   refine hcl.mono ?_
   clear hcl
   rintro e_ W45 ⟨j0, rfl, hj0, hj1, di, hb, hk⟩
   refine ⟨_, rfl, ?_⟩
   replace DI := qa.mk di
   replace HB := qa.mk hb
   replace BKa := qa.mk (KeepBut.blk hk BKa.out NEa.out (by simp))
   replace BKb0 := qa.mk (KeepBut.blk hk BKb0.out NEb0.out (by simp))
   replace NAa := qa.mk (NAa.out.keep (KeepT.of hk))
   clear di hb hk
   obtain ⟨j, rfl⟩ := Int.eq_ofNat_of_zero_le hj0
   have hjl : j ≤ a.length := by omega
   have HJ := qa.mk hjl
   have q0 : (0 ≤ (j : Int)) = True := eq_true (by omega)
   have q1 : ((j : Int) ≤ (ca : Int)) = True := eq_true (by have := NAa.out.cap; omega)
   clear hj0 hj1 hjl
   refine hK.out _ _ ((qf BKa.out 0).trans rfl) (fun hHeld => ?_)
   clear hK K
   refine xk (a' := ?_) ?_ ?_
   rotate_left
   ·show Act.put _ (some 21) _ = _
    simp only [Act.put, List.setIfInBounds_toArray, List.set_cons_zero, List.set_cons_succ, qt, qu]
    rfl
   refine zn (i := 9) (N := (some 22)) (v := ?_) (a' := ?_) #[true, true, true, true, true, true, true, true, true, true, false, false, true, false] rfl rfl (q9 HT_.out (by kernel_rfl)) (fun _ _ _ h => h) (Or.inl ⟨by rfl, ?_⟩) ?_ ?_
   rotate_left
   ·intro w'
    go_simp
    with_reducible rfl
   rotate_left
   ·simp only [Act.put, List.setIfInBounds_toArray, List.set_cons_zero, List.set_cons_succ, qt, qu]
    rfl
   refine zn (i := 10) (N := (some 23)) (v := ?_) (a' := ?_) #[true, true, true, true, true, true, true, true, true, true, true, false, true, false] rfl rfl (q9 HT_.out (by kernel_rfl)) (fun _ _ _ h => h) (Or.inl ⟨by rfl, ?_⟩) ?_ ?_
   rotate_left
   ·intro w'
    go_simp
    with_reducible rfl
   rotate_left
   ·simp only [Act.put, List.setIfInBounds_toArray, List.set_cons_zero, List.set_cons_succ, qt, qu]
    rfl
   refine one_ (i := 11) (N := (some 24)) #[true, true, true, true, true, true, true, true, true, true, true, true, true, false] rfl rfl (xn HT_.out (by kernel_rfl)) (by decide) (fun K hK => ?_)
   have nt := NAa.out.take j HJ.out
   have hlt_ : (a.take j).length = j := by rw [List.length_take]; have := HJ.out; omega
   have hcl := spellT w _ DI.out HB.out nt ((TIa.out.take j).short (by omega))
   rw [hlt_] at hcl
   refine xx Tryd.func13 (by kernel_rfl) rfl #[.pointer (some ⟨g, 0, none⟩), .agg #[.slice Aa j ca]] (by rfl) rfl rfl (by (try simp only [List.map_toArray, List.map_cons, List.map_nil]); first | done | rfl | (simp only [List.length_drop, List.length_take]; rfl)) ?_
   refine hcl.mono ?_
   rintro e_ W46 ⟨Ab, cb, b, rfl, sp, na, di, hb, hk⟩
   refine ⟨_, rfl, ?_⟩
   replace DI := qa.mk di
   replace HB := qa.mk hb
   replace BKa := qa.mk (KeepBut.blk hk BKa.out NEa.out (by simp))
   replace BKb0 := qa.mk (KeepBut.blk hk BKb0.out NEb0.out (by simp))
   replace NAa := qa.mk (NAa.out.keep (KeepT.of hk))
   clear di hb hk
   have NAb := qa.mk na
   have SPb := qa.mk sp
   clear na sp hcl nt hlt_
   refine hK.out _ _ ((qf BKa.out 0).trans rfl) (fun hHeld => ?_)
   clear hK K
   refine xk (a' := ?_) ?_ ?_
   rotate_left
   ·show Act.put _ (some 24) _ = _
    simp only [Act.put, List.setIfInBounds_toArray, List.set_cons_zero, List.set_cons_succ, qt, qu]
    rfl
   exact xk (by simp only [putAll, Act.put, List.setIfInBounds_toArray, List.set_cons_zero, List.set_cons_succ]) (hCont (j, Ab, cb, b, gb0) _ ⟨⟨HJ.out, by have := SPb.out; rwa [show (a.take j).length = j from by rw [List.length_take]; have := HJ.out; omega], NAb.out, NEb0.out, BKb0.out, DI.out, HB.out, GEb0.out, Na_b0.out⟩, BKa.out, NAa.out⟩)
 rintro ⟨jb, Ab, cb, b, gb⟩ W94 ⟨⟨hj, hsp, hna, hne, hbk, di, hb, hge, hnq_a⟩, h_BKa, h_NAa⟩
 dsimp only at hj hsp hna hne hbk hge hnq_a ⊢
 replace BKa := qa.mk h_BKa
 replace NAa := qa.mk h_NAa
 replace DI := qa.mk di
 replace HB := qa.mk hb
 have NAb := qa.mk hna
 have NEb := qa.mk hne
 have SPb := qa.mk hsp
 have TIb := qa.mk ((TIa.out.take jb).spell hsp)
 have FIb := qa.mk (TIb.out.fine (by omega))
 clear hj hsp hna hne di hb WW1 cut0 h_BKa h_NAa
 have hcz : W94.cell? ⟨gb, 0, none⟩ = some (.slice none 0 0) := (qf hbk 0).trans rfl
 have hfz := ql hbk 0
 refine xk (a' := ?_) ?_ ?_
 rotate_left
 ·simp only [putAll, Act.put, List.setIfInBounds_toArray, List.set_cons_zero, List.set_cons_succ]
  rfl
 refine last_ (i := 13) (N := none) #[true, true, true, true, true, true, true, true, true, true, true, true, true, true] rfl rfl (xn HT_.out (by kernel_rfl)) (by decide) (fun K hK => ?_)
 refine skip_ (by rfl) rfl (w1 := W94.setCell ⟨gb, 0, none⟩ (.slice Ab b.length cb)) ?_ ?_
 ·go_simp
 refine hK.out _ _ ?_
 clear hK K
 refine done_ (done_of HT_.out (by kernel_rfl)) ?_
 obtain ⟨W95, hWW⟩ : ∃ W_, W_ = W94.setCell ⟨gb, 0, none⟩ (.slice Ab b.length cb) := ⟨_, rfl⟩
 rw [← hWW]
 have hB2 := qe (j := 0) (v := .slice Ab b.length cb) HB.out hge
 rw [← hWW] at hB2
 have hD2 := DI.out.far (p := ⟨gb, 0, none⟩) (by show g ≠ gb; exact fun e => NEb.out e.symm) (.slice Ab b.length cb)
 rw [← hWW] at hD2
 have hT2 := KeepT.set (g := g) hbk 0 (.slice Ab b.length cb)
 rw [← hWW] at hT2
 have hbk2 := zl hbk 0 (.slice Ab b.length cb) rfl
 rw [← hWW] at hbk2
 have h_BK := xb BKa.out (p := ⟨gb, 0, none⟩) (by show ga ≠ gb; exact hnq_a) (.slice Ab b.length cb)
 rw [← hWW] at h_BK
 replace BKa := qa.mk h_BK
 clear h_BK
 replace NAa := qa.mk (NAa.out.keep hT2)
 replace NAb := qa.mk (NAb.out.keep hT2)
 replace DI := qa.mk hD2
 replace HB := qa.mk hB2
 have BKb := qa.mk hbk2
 clear hWW hB2 hD2 hT2 hbk hbk2 hcz hfz hge hnq_a
 go_upto_region 4 with (fail)
 have cut0 := qa.mk (show 0 ≤ (b.length : Int) from by omega)
 have WW1 := qa.mk (show wrap64 ((b.length : Int) + 1) = (b.length : Int) + 1 by have := TIb.out.1; unfold wrap64; omega)
 have hb0 : Below (W95).heap.size W95 _ := (show Below W95.heap.size W95 W95.drew from kk (Below.refl _ _))
 have di := DI.out.below hb0
 have hb := qk HB.out hb0
 have hk := KeepBut.of_below hb0 g none
 clear hb0
 replace DI := qa.mk di
 replace HB := qa.mk hb
 replace BKa := qa.mk (KeepBut.blk hk BKa.out NEa.out (by simp))
 replace BKb := qa.mk (KeepBut.blk hk BKb.out NEb.out (by simp))
 replace NAa := qa.mk (NAa.out.keep (KeepT.of hk))
 replace NAb := qa.mk (NAb.out.keep (KeepT.of hk))
 clear di hb hk
 refine start_ (n := 14) (S := fun w' => w'.cell? ⟨ga, 0, none⟩ = some (.slice Aa a.length ca) ∧ w'.cell? ⟨gb, 0, none⟩ = some (.slice Ab b.length cb)) (ds := [13]) #[false, false, false, false, false, false, false, false, false, false, false, false, false, false] (by kernel_rfl) rfl rfl ⟨((qf BKa.out 0).trans rfl), ((qf BKb.out 0).trans rfl)⟩ (fun hHeld => ?_); refine with_tabW order.tab4 order.bits4 (fun HT_ HW_ => ?_)
 generalize W95.drew = W96 at DI HB BKa BKb NAa NAb hHeld ⊢
 refine zn (i := 0) (N := (some 25)) (v := ?_) (a' := ?_) #[true, false, false, false, false, false, false, false, false, false, false, false, false, false] rfl rfl (q9 HT_.out (by kernel_rfl)) (fun _ _ _ h => h) (Or.inl ⟨by rfl, ?_⟩) ?_ ?_
 rotate_left
 ·intro w'
  go_simp
  with_reducible rfl
 rotate_left
 ·simp only [Act.put, List.setIfInBounds_toArray, List.set_cons_zero, List.set_cons_succ, qt, qu]
  rfl
 refine zn (i := 1) (N := (some 26)) (v := ?_) (a' := ?_) #[true, true, false, false, false, false, false, false, false, false, false, false, false, false] rfl rfl (q9 HT_.out (by kernel_rfl)) (fun _ _ _ h => h) (Or.inl ⟨by rfl, ?_⟩) ?_ ?_
 rotate_left
 ·intro w'
  go_simp
  with_reducible rfl
 rotate_left
 ·simp only [Act.put, List.setIfInBounds_toArray, List.set_cons_zero, List.set_cons_succ, qt, qu]
  rfl
 refine zn (i := 3) (N := (some 28)) (v := ?_) (a' := ?_) #[true, true, false, true, false, false, false, false, false, false, false, false, false, false] rfl rfl (q9 HT_.out (by kernel_rfl)) (fun _ _ _ h => h) (Or.inl ⟨by rfl, ?_⟩) ?_ ?_
 rotate_left
 ·intro w'
  go_simp
  with_reducible rfl
 rotate_left
 ·simp only [Act.put, List.setIfInBounds_toArray, List.set_cons_zero, List.set_cons_succ, qt, qu]
  rfl
 refine zn (i := 4) (N := (some 29)) (v := ?_) (a' := ?_) #[true, true, false, true, true, false, false, false, false, false, false, false, false, false] rfl rfl (q9 HT_.out (by kernel_rfl)) (fun _ _ _ h => h) (Or.inl ⟨by rfl, ?_⟩) ?_ ?_
 rotate_left
 ·intro w'
  go_simp
  with_reducible rfl
 rotate_left
 ·simp only [Act.put, List.setIfInBounds_toArray, List.set_cons_zero, List.set_cons_succ, qt, qu]
  rfl
 refine xc (i := 2) (N := (some 27)) (v := ?_) (a' := ?_) #[true, true, true, true, true, false, false, false, false, false, false, false, false, false] rfl rfl (zc HT_.out HW_.out (by kernel_rfl)) (fun _ _ _ h => h) (Or.inl ⟨by rfl, ?_⟩) hHeld ?_ ?_
 rotate_left
 ·rintro w' ⟨s0, s1⟩
  go_simp
  with_reducible rfl
 rotate_left
 ·simp only [Act.put, List.setIfInBounds_toArray, List.set_cons_zero, List.set_cons_succ, qt, qu]
  rfl
 refine xc (i := 5) (N := (some 30)) (v := ?_) (a' := ?_) #[true, true, true, true, true, true, false, false, false, false, false, false, false, false] rfl rfl (zc HT_.out HW_.out (by kernel_rfl)) (fun _ _ _ h => h) (Or.inl ⟨by rfl, ?_⟩) hHeld ?_ ?_
 rotate_left
 ·rintro w' ⟨s0, s1⟩
  go_simp
  with_reducible rfl
 rotate_left
 ·simp only [Act.put, List.setIfInBounds_toArray, List.set_cons_zero, List.set_cons_succ, qt, qu]
  rfl
 refine zn (i := 6) (N := (some 31)) (v := ?_) (a' := ?_) #[true, true, true, true, true, true, true, false, false, false, false, false, false, false] rfl rfl (q9 HT_.out (by kernel_rfl)) (fun _ _ _ h => h) (Or.inl ⟨by rfl, ?_⟩) ?_ ?_
 rotate_left
 ·intro w'
  go_simp
  with_reducible rfl
 rotate_left
 ·simp only [Act.put, List.setIfInBounds_toArray, List.set_cons_zero, List.set_cons_succ, qt, qu]
  rfl
 refine zn (i := 7) (N := (some 32)) (v := ?_) (a' := ?_) #[true, true, true, true, true, true, true, true, false, false, false, false, false, false] rfl rfl (q9 HT_.out (by kernel_rfl)) (fun _ _ _ h => h) (Or.inl ⟨by rfl, ?_⟩) ?_ ?_
 rotate_left
 ·intro w'
  go_simp
  with_reducible rfl
 rotate_left
 ·simp only [Act.put, List.setIfInBounds_toArray, List.set_cons_zero, List.set_cons_succ, qt, qu]
  rfl
 refine join_ (σ := Nat × Option Addr × Nat × List (List S26) × Nat) 1 #[true, true, true, true, true, true, true, true, true, true, true, true, true, false] (fun s_ => [(33, .int .i64 (s_.1 : Int)), (34, .slice Ab s_.1 cb), (35, .agg #[.slice Ab s_.1 cb]), (36, .agg #[.slice s_.2.1 s_.2.2.2.1.length s_.2.2.1]), (6, .pointer (some ⟨s_.2.2.2.2, 0, none⟩))]) (fun s_ w' => (s_.1 ≤ b.length ∧ SpN (b.take s_.1) s_.2.2.2.1 (b.take s_.1).length ∧ NameAt g w' s_.2.1 s_.2.2.1 s_.2.2.2.1 ∧ s_.2.2.2.2 ≠ g ∧ w'.heap[s_.2.2.2.2]? = some (.cells #[.slice none 0 0] 24 (0, 0)) ∧ DK w w' g ∧ Below w.heap.size w w' ∧ w.heap.size ≤ s_.2.2.2.2 ∧ ga ≠ s_.2.2.2.2 ∧ gb ≠ s_.2.2.2.2) ∧ w'.heap[ga]? = some (.cells #[.slice Aa a.length ca] 24 (0, 0)) ∧ w'.heap[gb]? = some (.cells #[.slice Ab b.length cb] 24 (0, 0)) ∧ NameAt g w' Aa ca a ∧ NameAt g w' Ab cb b) ?_ ?_
 rotate_left
 ·intro hCont
  refine two_ (i := 8) (j := 12) (Ni := (some 33)) (Nj := (some 6)) #[true, true, true, true, true, true, true, true, true, false, false, false, false, false] #[true, true, true, true, true, true, true, true, false, false, false, false, true, false] rfl rfl rfl rfl (two_of HT_.out (by kernel_rfl)) (by decide) (by decide) (fun K hK => ?_) (fun K hK => ?_)
  ·skip
   refine xx Tryd.func14 (by kernel_rfl) rfl #[.pointer (some ⟨g, 0, none⟩), .int .i64 (wrap64 ((b.length : Int) + 1))] (by rfl) rfl rfl (by (try simp only [List.map_toArray, List.map_cons, List.map_nil]); first | done | rfl | (simp only [List.length_drop, List.length_take]; rfl)) ?_
   have hcl := next_weak g ((b.length : Int) + 1) (by have := cut0.out; omega) (by have := TIb.out.1; omega) w _ DI.out HB.out
   rw [show #[Value.pointer (some ⟨g, 0, none⟩), .int .i64 ((b.length : Int) + 1)] = #[Value.pointer (some ⟨g, 0, none⟩), .int .i64 (wrap64 ((b.length : Int) + 1))] from by rw [WW1.out]] at hcl
   refine hcl.mono ?_
   clear hcl
   rintro e_ W137 ⟨j0, rfl, hj0, hj1, di, hb, hk⟩
   refine ⟨_, rfl, ?_⟩
   replace DI := qa.mk di
   replace HB := qa.mk hb
   replace BKa := qa.mk (KeepBut.blk hk BKa.out NEa.out (by simp))
   replace BKb := qa.mk (KeepBut.blk hk BKb.out NEb.out (by simp))
   replace NAa := qa.mk (NAa.out.keep (KeepT.of hk))
   replace NAb := qa.mk (NAb.out.keep (KeepT.of hk))
   clear di hb hk
   obtain ⟨j, rfl⟩ := Int.eq_ofNat_of_zero_le hj0
   have hjl : j ≤ b.length := by omega
   have HJ := qa.mk hjl
   have q0 : (0 ≤ (j : Int)) = True := eq_true (by omega)
   have q1 : ((j : Int) ≤ (cb : Int)) = True := eq_true (by have := NAb.out.cap; omega)
   clear hj0 hj1 hjl
   refine hK.out _ _ ⟨((qf BKa.out 0).trans rfl), ((qf BKb.out 0).trans rfl)⟩ (fun hHeld => ?_)
   clear hK K
   refine xk (a' := ?_) ?_ ?_
   rotate_left
   ·show Act.put _ (some 33) _ = _
    simp only [Act.put, List.setIfInBounds_toArray, List.set_cons_zero, List.set_cons_succ, qt, qu]
    rfl
   refine zn (i := 9) (N := (some 34)) (v := ?_) (a' := ?_) #[true, true, true, true, true, true, true, true, true, true, false, false, false, false] rfl rfl (q9 HT_.out (by kernel_rfl)) (fun _ _ _ h => h) (Or.inl ⟨by rfl, ?_⟩) ?_ ?_
   rotate_left
   ·intro w'
    go_simp
    with_reducible rfl
   rotate_left
   ·simp only [Act.put, List.setIfInBounds_toArray, List.set_cons_zero, List.set_cons_succ, qt, qu]
    rfl
   refine zn (i := 10) (N := (some 35)) (v := ?_) (a' := ?_) #[true, true, true, true, true, true, true, true, true, true, true, false, false, false] rfl rfl (q9 HT_.out (by kernel_rfl)) (fun _ _ _ h => h) (Or.inl ⟨by rfl, ?_⟩) ?_ ?_
   rotate_left
   ·intro w'
    go_simp
    with_reducible rfl
   rotate_left
   ·simp only [Act.put, List.setIfInBounds_toArray, List.set_cons_zero, List.set_cons_succ, qt, qu]
    rfl
   refine two_ (i := 11) (j := 12) (Ni := (some 36)) (Nj := (some 6)) #[true, true, true, true, true, true, true, true, true, true, true, true, false, false] #[true, true, true, true, true, true, true, true, true, true, true, false, true, false] rfl rfl rfl rfl (two_of HT_.out (by kernel_rfl)) (by decide) (by decide) (fun K hK => ?_) (fun K hK => ?_)
   ·skip
    have nt := NAb.out.take j HJ.out
    have hlt_ : (b.take j).length = j := by rw [List.length_take]; have := HJ.out; omega
    have hcl := spellT w _ DI.out HB.out nt ((TIb.out.take j).short (by omega))
    rw [hlt_] at hcl
    refine xx Tryd.func13 (by kernel_rfl) rfl #[.pointer (some ⟨g, 0, none⟩), .agg #[.slice Ab j cb]] (by rfl) rfl rfl (by (try simp only [List.map_toArray, List.map_cons, List.map_nil]); first | done | rfl | (simp only [List.length_drop, List.length_take]; rfl)) ?_
    refine hcl.mono ?_
    rintro e_ W158 ⟨Ac, cc, c, rfl, sp, na, di, hb, hk⟩
    refine ⟨_, rfl, ?_⟩
    replace DI := qa.mk di
    replace HB := qa.mk hb
    replace BKa := qa.mk (KeepBut.blk hk BKa.out NEa.out (by simp))
    replace BKb := qa.mk (KeepBut.blk hk BKb.out NEb.out (by simp))
    replace NAa := qa.mk (NAa.out.keep (KeepT.of hk))
    replace NAb := qa.mk (NAb.out.keep (KeepT.of hk))
    clear di hb hk
    have NAc := qa.mk na
    have SPc := qa.mk sp
    clear na sp hcl nt hlt_
    refine hK.out _ _ ⟨((qf BKa.out 0).trans rfl), ((qf BKb.out 0).trans rfl)⟩ (fun hHeld => ?_)
    clear hK K
    refine xk (a' := ?_) ?_ ?_
    rotate_left
    ·show Act.put _ (some 36) _ = _
     simp only [Act.put, List.setIfInBounds_toArray, List.set_cons_zero, List.set_cons_succ, qt, qu]
     rfl
    refine one_ (i := 12) (N := (some 6)) #[true, true, true, true, true, true, true, true, true, true, true, true, true, false] rfl rfl (xn HT_.out (by kernel_rfl)) (by decide) (fun K hK => ?_)
    refine value_ (w1 := ?_) (v := ?_) (by rfl) rfl ?_ ?_
    rotate_left 2
    ·go_simp
     constructor
     ·rfl
     ·rfl
    obtain ⟨W159, hWW⟩ : ∃ W_, W_ = W158.alloc (Obj.cells #[.slice none 0 0] 24) := ⟨_, rfl⟩
    rw [← hWW]
    have BKc0 := qa.mk (show W159.heap[W158.heap.size]? = some (.cells #[.slice none 0 0] 24 (0, 0)) by rw [hWW]; exact heap_alloc_new _ _)
    have NEc0 := qa.mk (show W158.heap.size ≠ g from Nat.ne_of_gt DI.out.lt)
    have GEc0 := qa.mk (show w.heap.size ≤ W158.heap.size from HB.out.size)
    have Na_c0 := qa.mk (show ga ≠ W158.heap.size from Nat.ne_of_lt (zk BKa.out))
    have Nb_c0 := qa.mk (show gb ≠ W158.heap.size from Nat.ne_of_lt (zk BKb.out))
    have hb0 : Below (W158).heap.size W158 _ := (show Below W158.heap.size W158 W159 by rw [hWW]; exact qc (Below.refl _ _) _)
    have di := DI.out.below hb0
    have hb := qk HB.out hb0
    have hk := KeepBut.of_below hb0 g none
    clear hb0
    replace DI := qa.mk di
    replace HB := qa.mk hb
    replace BKa := qa.mk (KeepBut.blk hk BKa.out NEa.out (by simp))
    replace BKb := qa.mk (KeepBut.blk hk BKb.out NEb.out (by simp))
    replace NAa := qa.mk (NAa.out.keep (KeepT.of hk))
    replace NAb := qa.mk (NAb.out.keep (KeepT.of hk))
    replace NAc := qa.mk (NAc.out.keep (KeepT.of hk))
    clear di hb hk
    clear hWW
    generalize W158.heap.size = gc0 at BKc0 NEc0 GEc0 Na_c0 Nb_c0 ⊢
    refine hK.out _ _ ⟨((qf BKa.out 0).trans rfl), ((qf BKb.out 0).trans rfl)⟩ (fun hHeld => ?_)
    clear hK K
    refine xk (a' := ?_) ?_ ?_
    rotate_left
    ·show Act.put _ (some 6) _ = _
     simp only [Act.put, List.setIfInBounds_toArray, List.set_cons_zero, List.set_cons_succ, qt, qu]
     rfl
    exact xk (by simp only [putAll, Act.put, List.setIfInBounds_toArray, List.set_cons_zero, List.set_cons_succ]) (hCont (j, Ac, cc, c, gc0) _ ⟨⟨HJ.out, by have := SPc.out; rwa [show (b.take j).length = j from by rw [List.length_take]; have := HJ.out; omega], NAc.out, NEc0.out, BKc0.out, DI.out, HB.out, GEc0.out, Na_c0.out, Nb_c0.out⟩, BKa.out, BKb.out, NAa.out, NAb.out⟩)
   ·skip
    refine value_ (w1 := ?_) (v := ?_) (by rfl) rfl ?_ ?_
    rotate_left 2
    ·go_simp
     constructor
     ·rfl
     ·rfl
    obtain ⟨W158, hWW⟩ : ∃ W_, W_ = W137.alloc (Obj.cells #[.slice none 0 0] 24) := ⟨_, rfl⟩
    rw [← hWW]
    have BKc0 := qa.mk (show W158.heap[W137.heap.size]? = some (.cells #[.slice none 0 0] 24 (0, 0)) by rw [hWW]; exact heap_alloc_new _ _)
    have NEc0 := qa.mk (show W137.heap.size ≠ g from Nat.ne_of_gt DI.out.lt)
    have GEc0 := qa.mk (show w.heap.size ≤ W137.heap.size from HB.out.size)
    have Na_c0 := qa.mk (show ga ≠ W137.heap.size from Nat.ne_of_lt (zk BKa.out))
    have Nb_c0 := qa.mk (show gb ≠ W137.heap.size from Nat.ne_of_lt (zk BKb.out))
    have hb0 : Below (W137).heap.size W137 _ := (show Below W137.heap.size W137 W158 by rw [hWW]; exact qc (Below.refl _ _) _)
    have di := DI.out.below hb0
    have hb := qk HB.out hb0
    have hk := KeepBut.of_below hb0 g none
    clear hb0
    replace DI := qa.mk di
    replace HB := qa.mk hb
    replace BKa := qa.mk (KeepBut.blk hk BKa.out NEa.out (by simp))
    replace BKb := qa.mk (KeepBut.blk hk BKb.out NEb.out (by simp))
    replace NAa := qa.mk (NAa.out.keep (KeepT.of hk))
    replace NAb := qa.mk (NAb.out.keep (KeepT.of hk))
    clear di hb hk
    clear hWW
    generalize W137.heap.size = gc0 at BKc0 NEc0 GEc0 Na_c0 Nb_c0 ⊢
    refine hK.out _ _ ⟨((qf BKa.out 0).trans rfl), ((qf BKb.out 0).trans rfl)⟩ (fun hHeld => ?_)
    clear hK K
    refine xk (a' := ?_) ?_ ?_
    rotate_left
    ·show Act.put _ (some 6) _ = _
     simp only [Act.put, List.setIfInBounds_toArray, List.set_cons_zero, List.set_cons_succ, qt, qu]
     rfl
    refine one_ (i := 11) (N := (some 36)) #[true, true, true, true, true, true, true, true, true, true, true, true, true, false] rfl rfl (xn HT_.out (by kernel_rfl)) (by decide) (fun K hK => ?_)
    have nt := NAb.out.take j HJ.out
    have hlt_ : (b.take j).length = j := by rw [List.length_take]; have := HJ.out; omega
    have hcl := spellT w _ DI.out HB.out nt ((TIb.out.take j).short (by omega))
    rw [hlt_] at hcl
    refine xx Tryd.func13 (by kernel_rfl) rfl #[.pointer (some ⟨g, 0, none⟩), .agg #[.slice Ab j cb]] (by rfl) rfl rfl (by (try simp only [List.map_toArray, List.map_cons, List.map_nil]); first | done | rfl | (simp only [List.length_drop, List.length_take]; rfl)) ?_
    refine hcl.mono ?_
    rintro e_ W159 ⟨Ac, cc, c, rfl, sp, na, di, hb, hk⟩
    refine ⟨_, rfl, ?_⟩
    replace DI := qa.mk di
    replace HB := qa.mk hb
    replace BKa := qa.mk (KeepBut.blk hk BKa.out NEa.out (by simp))
    replace BKb := qa.mk (KeepBut.blk hk BKb.out NEb.out (by simp))
    replace BKc0 := qa.mk (KeepBut.blk hk BKc0.out NEc0.out (by simp))
    replace NAa := qa.mk (NAa.out.keep (KeepT.of hk))
    replace NAb := qa.mk (NAb.out.keep (KeepT.of hk))
    clear di hb hk
    have NAc := qa.mk na
    have SPc := qa.mk sp
    clear na sp hcl nt hlt_
    refine hK.out _ _ ⟨((qf BKa.out 0).trans rfl), ((qf BKb.out 0).trans rfl)⟩ (fun hHeld => ?_)
    clear hK K
    refine xk (a' := ?_) ?_ ?_
    rotate_left
    ·show Act.put _ (some 36) _ = _
     simp only [Act.put, List.setIfInBounds_toArray, List.set_cons_zero, List.set_cons_succ, qt, qu]
     rfl
    exact xk (by simp only [putAll, Act.put, List.setIfInBounds_toArray, List.set_cons_zero, List.set_cons_succ]) (hCont (j, Ac, cc, c, gc0) _ ⟨⟨HJ.out, by have := SPc.out; rwa [show (b.take j).length = j from by rw [List.length_take]; have := HJ.out; omega], NAc.out, NEc0.out, BKc0.out, DI.out, HB.out, GEc0.out, Na_c0.out, Nb_c0.out⟩, BKa.out, BKb.out, NAa.out, NAb.out⟩)
  ·skip
   refine value_ (w1 := ?_) (v := ?_) (by rfl) rfl ?_ ?_
   rotate_left 2
   ·go_simp
    constructor
    ·rfl
    ·rfl
   obtain ⟨W137, hWW⟩ : ∃ W_, W_ = W96.alloc (Obj.cells #[.slice none 0 0] 24) := ⟨_, rfl⟩
   rw [← hWW]
   have BKc0 := qa.mk (show W137.heap[W96.heap.size]? = some (.cells #[.slice none 0 0] 24 (0, 0)) by rw [hWW]; exact heap_alloc_new _ _)
   have NEc0 := qa.mk (show W96.heap.size ≠ g from Nat.ne_of_gt DI.out.lt)
   have GEc0 := qa.mk (show w.heap.size ≤ W96.heap.size from HB.out.size)
   have Na_c0 := qa.mk (show ga ≠ W96.heap.size from Nat.ne_of_lt (zk BKa.out))
   have Nb_c0 := qa.mk (show gb ≠ W96.heap.size from Nat.ne_of_lt (zk BKb.out))
   have hb0 : Below (W96).heap.size W96 _ := (show Below W96.heap.size W96 W137 by rw [hWW]; exact qc (Below.refl _ _) _)
   have di := DI.out.below hb0
   have hb := qk HB.out hb0
   have hk := KeepBut.of_below hb0 g none
   clear hb0
   replace DI := qa.mk di
   replace HB := qa.mk hb
   replace BKa := qa.mk (KeepBut.blk hk BKa.out NEa.out (by simp))
   replace BKb := qa.mk (KeepBut.blk hk BKb.out NEb.out (by simp))
   replace NAa := qa.mk (NAa.out.keep (KeepT.of hk))
   replace NAb := qa.mk (NAb.out.keep (KeepT.of hk))
   clear di hb hk
   clear hWW
   generalize W96.heap.size = gc0 at BKc0 NEc0 GEc0 Na_c0 Nb_c0 ⊢
   refine hK.out _ _ ⟨((qf BKa.out 0).trans rfl), ((qf BKb.out 0).trans rfl)⟩ (fun hHeld => ?_)
   clear hK K
   refine xk (a' := ?_) ?_ ?_
   rotate_left
   ·show Act.put _ (some 6) _ = _
    simp only [Act.put, List.setIfInBounds_toArray, List.set_cons_zero, List.set_cons_succ, qt, qu]
    rfl
   refine one_ (i := 8) (N := (some 33)) #[true, true, true, true, true, true, true, true, true, false, false, false, true, false] rfl rfl (xn HT_.out (by kernel_rfl)) (by decide) (fun K hK => ?_)
   refine xx Tryd.func14 (by kernel_rfl) rfl #[.pointer (some ⟨g, 0, none⟩), .int .i64 (wrap64 ((b.length : Int) + 1))] (by rfl) rfl rfl (by (try simp only [List.map_toArray, List.map_cons, List.map_nil]); first | done | rfl | (simp only [List.length_drop, List.length_take]; rfl)) ?_
   have hcl := next_weak g ((b.length : Int) + 1) (by have := cut0.out; omega) (by have := TIb.out.1; omega) w _ DI.out HB.out
   rw [show #[Value.pointer (some ⟨g, 0, none⟩), .int .i64 ((b.length : Int) + 1)] = #[Value.pointer (some ⟨g, 0, none⟩), .int .i64 (wrap64 ((b.length : Int) + 1))] from by rw [WW1.out]] at hcl
   refine hcl.mono ?_
   clear hcl
   rintro e_ W138 ⟨j0, rfl, hj0, hj1, di, hb, hk⟩
   refine ⟨_, rfl, ?_⟩
   replace DI := qa.mk di
   replace HB := qa.mk hb
   replace BKa := qa.mk (KeepBut.blk hk BKa.out NEa.out (by simp))
   replace BKb := qa.mk (KeepBut.blk hk BKb.out NEb.out (by simp))
   replace BKc0 := qa.mk (KeepBut.blk hk BKc0.out NEc0.out (by simp))
   replace NAa := qa.mk (NAa.out.keep (KeepT.of hk))
   replace NAb := qa.mk (NAb.out.keep (KeepT.of hk))
   clear di hb hk
   obtain ⟨j, rfl⟩ := Int.eq_ofNat_of_zero_le hj0
   have hjl : j ≤ b.length := by omega
   have HJ := qa.mk hjl
   have q0 : (0 ≤ (j : Int)) = True := eq_true (by omega)
   have q1 : ((j : Int) ≤ (cb : Int)) = True := eq_true (by have := NAb.out.cap; omega)
   clear hj0 hj1 hjl
   refine hK.out _ _ ⟨((qf BKa.out 0).trans rfl), ((qf BKb.out 0).trans rfl)⟩ (fun hHeld => ?_)
   clear hK K
   refine xk (a' := ?_) ?_ ?_
   rotate_left
   ·show Act.put _ (some 33) _ = _
    simp only [Act.put, List.setIfInBounds_toArray, List.set_cons_zero, List.set_cons_succ, qt, qu]
    rfl
   refine zn (i := 9) (N := (some 34)) (v := ?_) (a' := ?_) #[true, true, true, true, true, true, true, true, true, true, false, false, true, false] rfl rfl (q9 HT_.out (by kernel_rfl)) (fun _ _ _ h => h) (Or.inl ⟨by rfl, ?_⟩) ?_ ?_
   rotate_left
   ·intro w'
    go_simp
    with_reducible rfl
   rotate_left
   ·simp only [Act.put, List.setIfInBounds_toArray, List.set_cons_zero, List.set_cons_succ, qt, qu]
    rfl
   refine zn (i := 10) (N := (some 35)) (v := ?_) (a' := ?_) #[true, true, true, true, true, true, true, true, true, true, true, false, true, false] rfl rfl (q9 HT_.out (by kernel_rfl)) (fun _ _ _ h => h) (Or.inl ⟨by rfl, ?_⟩) ?_ ?_
   rotate_left
   ·intro w'
    go_simp
    with_reducible rfl
   rotate_left
   ·simp only [Act.put, List.setIfInBounds_toArray, List.set_cons_zero, List.set_cons_succ, qt, qu]
    rfl
   refine one_ (i := 11) (N := (some 36)) #[true, true, true, true, true, true, true, true, true, true, true, true, true, false] rfl rfl (xn HT_.out (by kernel_rfl)) (by decide) (fun K hK => ?_)
   have nt := NAb.out.take j HJ.out
   have hlt_ : (b.take j).length = j := by rw [List.length_take]; have := HJ.out; omega
   have hcl := spellT w _ DI.out HB.out nt ((TIb.out.take j).short (by omega))
   rw [hlt_] at hcl
   refine xx Tryd.func13 (by kernel_rfl) rfl #[.pointer (some ⟨g, 0, none⟩), .agg #[.slice Ab j cb]] (by rfl) rfl rfl (by (try simp only [List.map_toArray, List.map_cons, List.map_nil]); first | done | rfl | (simp only [List.length_drop, List.length_take]; rfl)) ?_
   refine hcl.mono ?_
   rintro e_ W139 ⟨Ac, cc, c, rfl, sp, na, di, hb, hk⟩
   refine ⟨_, rfl, ?_⟩
   replace DI := qa.mk di
   replace HB := qa.mk hb
   replace BKa := qa.mk (KeepBut.blk hk BKa.out NEa.out (by simp))
   replace BKb := qa.mk (KeepBut.blk hk BKb.out NEb.out (by simp))
   replace BKc0 := qa.mk (KeepBut.blk hk BKc0.out NEc0.out (by simp))
   replace NAa := qa.mk (NAa.out.keep (KeepT.of hk))
   replace NAb := qa.mk (NAb.out.keep (KeepT.of hk))
   clear di hb hk
   have NAc := qa.mk na
   have SPc := qa.mk sp
   clear na sp hcl nt hlt_
   refine hK.out _ _ ⟨((qf BKa.out 0).trans rfl), ((qf BKb.out 0).trans rfl)⟩ (fun hHeld => ?_)
   clear hK K
   refine xk (a' := ?_) ?_ ?_
   rotate_left
   ·show Act.put _ (some 36) _ = _
    simp only [Act.put, List.setIfInBounds_toArray, List.set_cons_zero, List.set_cons_succ, qt, qu]
    rfl
   exact xk (by simp only [putAll, Act.put, List.setIfInBounds_toArray, List.set_cons_zero, List.set_cons_succ]) (hCont (j, Ac, cc, c, gc0) _ ⟨⟨HJ.out, by have := SPc.out; rwa [show (b.take j).length = j from by rw [List.length_take]; have := HJ.out; omega], NAc.out, NEc0.out, BKc0.out, DI.out, HB.out, GEc0.out, Na_c0.out, Nb_c0.out⟩, BKa.out, BKb.out, NAa.out, NAb.out⟩)
 rintro ⟨jc, Ac, cc, c, gc⟩ W187 ⟨⟨hj, hsp, hna, hne, hbk, di, hb, hge, hnq_a, hnq_b⟩, h_BKa, h_BKb, h_NAa, h_NAb⟩
 dsimp only at hj hsp hna hne hbk hge hnq_a hnq_b ⊢
 replace BKa := qa.mk h_BKa
 replace BKb := qa.mk h_BKb
 replace NAa := qa.mk h_NAa
 replace NAb := qa.mk h_NAb
 replace DI := qa.mk di
 replace HB := qa.mk hb
 have NAc := qa.mk hna
 have NEc := qa.mk hne
 have SPc := qa.mk hsp
 have TIc := qa.mk ((TIb.out.take jc).spell hsp)
 have FIc := qa.mk (TIc.out.fine (by omega))
 clear hj hsp hna hne di hb WW1 cut0 h_BKa h_BKb h_NAa h_NAb
 have hcz : W187.cell? ⟨gc, 0, none⟩ = some (.slice none 0 0) := (qf hbk 0).trans rfl
 have hfz := ql hbk 0
 refine xk (a' := ?_) ?_ ?_
 rotate_left
 ·simp only [putAll, Act.put, List.setIfInBounds_toArray, List.set_cons_zero, List.set_cons_succ]
  rfl
 refine last_ (i := 13) (N := none) #[true, true, true, true, true, true, true, true, true, true, true, true, true, true] rfl rfl (xn HT_.out (by kernel_rfl)) (by decide) (fun K hK => ?_)
 refine skip_ (by rfl) rfl (w1 := W187.setCell ⟨gc, 0, none⟩ (.slice Ac c.length cc)) ?_ ?_
 ·go_simp
 refine hK.out _ _ ?_
 clear hK K
 refine done_ (done_of HT_.out (by kernel_rfl)) ?_
 obtain ⟨W188, hWW⟩ : ∃ W_, W_ = W187.setCell ⟨gc, 0, none⟩ (.slice Ac c.length cc) := ⟨_, rfl⟩
 rw [← hWW]
 have hB2 := qe (j := 0) (v := .slice Ac c.length cc) HB.out hge
 rw [← hWW] at hB2
 have hD2 := DI.out.far (p := ⟨gc, 0, none⟩) (by show g ≠ gc; exact fun e => NEc.out e.symm) (.slice Ac c.length cc)
 rw [← hWW] at hD2
 have hT2 := KeepT.set (g := g) hbk 0 (.slice Ac c.length cc)
 rw [← hWW] at hT2
 have hbk2 := zl hbk 0 (.slice Ac c.length cc) rfl
 rw [← hWW] at hbk2
 have h_BK := xb BKa.out (p := ⟨gc, 0, none⟩) (by show ga ≠ gc; exact hnq_a) (.slice Ac c.length cc)
 rw [← hWW] at h_BK
 replace BKa := qa.mk h_BK
 clear h_BK
 have h_BK := xb BKb.out (p := ⟨gc, 0, none⟩) (by show gb ≠ gc; exact hnq_b) (.slice Ac c.length cc)
 rw [← hWW] at h_BK
 replace BKb := qa.mk h_BK
 clear h_BK
 replace NAa := qa.mk (NAa.out.keep hT2)
 replace NAb := qa.mk (NAb.out.keep hT2)
 replace NAc := qa.mk (NAc.out.keep hT2)
 replace DI := qa.mk hD2
 replace HB := qa.mk hB2
 have BKc := qa.mk hbk2
 clear hWW hB2 hD2 hT2 hbk hbk2 hcz hfz hge hnq_a hnq_b
 go_upto_region 6 with (go_at_call 12; refine (nameT w _ DI.out HB.out).mono ?_; rintro e W189 ⟨Ap, cp, p, rfl, ti, rm, na, di, hb, hk⟩; replace DI := qa.mk di; replace HB := qa.mk hb; replace BKa := qa.mk (KeepBut.blk hk BKa.out NEa.out (by simp)); replace BKb := qa.mk (KeepBut.blk hk BKb.out NEb.out (by simp)); replace BKc := qa.mk (KeepBut.blk hk BKc.out NEc.out (by simp)); replace NAa := qa.mk (NAa.out.keep (KeepT.of hk)); replace NAb := qa.mk (NAb.out.keep (KeepT.of hk)); replace NAc := qa.mk (NAc.out.keep (KeepT.of hk)); clear di hb hk; have NAp := qa.mk na; have TIp := qa.mk ti; have FIp := qa.mk (ti.fine (by omega)); clear na ti rm)
 obtain ⟨W190, hWW⟩ : ∃ W_, W_ = W189.alloc (Obj.cells #[.slice Ap p.length cp] 24) := ⟨_, rfl⟩
 rw [← hWW]
 have BKp := qa.mk (show W190.heap[W189.heap.size]? = some (.cells #[.slice Ap p.length cp] 24 (0, 0)) by rw [hWW]; exact heap_alloc_new _ _)
 have NEp := qa.mk (show W189.heap.size ≠ g from Nat.ne_of_gt DI.out.lt)
 have GEp := qa.mk (show w.heap.size ≤ W189.heap.size from HB.out.size)
 have Na_p := qa.mk (show ga ≠ W189.heap.size from Nat.ne_of_lt (zk BKa.out))
 have Nb_p := qa.mk (show gb ≠ W189.heap.size from Nat.ne_of_lt (zk BKb.out))
 have Nc_p := qa.mk (show gc ≠ W189.heap.size from Nat.ne_of_lt (zk BKc.out))
 have hb0 : Below (W189).heap.size W189 _ := (show Below W189.heap.size W189 W190 by rw [hWW]; exact qc (Below.refl _ _) _)
 have di := DI.out.below hb0
 have hb := qk HB.out hb0
 have hk := KeepBut.of_below hb0 g none
 clear hb0
 replace DI := qa.mk di
 replace HB := qa.mk hb
 replace BKa := qa.mk (KeepBut.blk hk BKa.out NEa.out (by simp))
 replace BKb := qa.mk (KeepBut.blk hk BKb.out NEb.out (by simp))
 replace BKc := qa.mk (KeepBut.blk hk BKc.out NEc.out (by simp))
 replace NAa := qa.mk (NAa.out.keep (KeepT.of hk))
 replace NAb := qa.mk (NAb.out.keep (KeepT.of hk))
 replace NAc := qa.mk (NAc.out.keep (KeepT.of hk))
 replace NAp := qa.mk (NAp.out.keep (KeepT.of hk))
 clear di hb hk
 clear hWW
 generalize W189.heap.size = gp at BKp NEp GEp Na_p Nb_p Nc_p ⊢
 have hab := withinS_trans (within_take a jb) (SpN_within SPb.out)
 have hbc := withinS_trans (within_take b jc) (SpN_within SPc.out)
 have hac := withinS_trans hab hbc
 have HAB := qa.mk hab
 have HBC := qa.mk hbc
 have HAC := qa.mk hac
 clear hab hbc hac
 obtain ⟨wba, hwba⟩ : ∃ x, x = withinS b a := ⟨_, rfl⟩
 have HBA := qa.mk hwba.symm
 have HMB := qa.mk (show matchS a b = wba by rw [matchS_both, HAB.out, hwba]; rfl)
 clear hwba
 cases hm : matchS a p with
 | false =>
  have HM := qa.mk hm
  clear hm
  have hb0 : Below (W190).heap.size W190 _ := (show Below W190.heap.size W190 W190.drew from kk (Below.refl _ _))
  have di := DI.out.below hb0
  have hb := qk HB.out hb0
  have hk := KeepBut.of_below hb0 g none
  clear hb0
  replace DI := qa.mk di
  replace HB := qa.mk hb
  replace BKa := qa.mk (KeepBut.blk hk BKa.out NEa.out (by simp))
  replace BKb := qa.mk (KeepBut.blk hk BKb.out NEb.out (by simp))
  replace BKc := qa.mk (KeepBut.blk hk BKc.out NEc.out (by simp))
  replace BKp := qa.mk (KeepBut.blk hk BKp.out NEp.out (by simp))
  replace NAa := qa.mk (NAa.out.keep (KeepT.of hk))
  replace NAb := qa.mk (NAb.out.keep (KeepT.of hk))
  replace NAc := qa.mk (NAc.out.keep (KeepT.of hk))
  replace NAp := qa.mk (NAp.out.keep (KeepT.of hk))
  clear di hb hk
  refine start_ (n := 24) (S := fun w' => w'.cell? ⟨ga, 0, none⟩ = some (.slice Aa a.length ca) ∧ w'.cell? ⟨gb, 0, none⟩ = some (.slice Ab b.length cb) ∧ w'.cell? ⟨gc, 0, none⟩ = some (.slice Ac c.length cc) ∧ w'.cell? ⟨gp, 0, none⟩ = some (.slice Ap p.length cp)) (ds := []) #[false, false, false, false, false, false, false, false, false, false, false, false, false, false, false, false, false, false, false, false, false, false, false, false] (by kernel_rfl) rfl rfl ⟨((qf BKa.out 0).trans rfl), ((qf BKb.out 0).trans rfl), ((qf BKc.out 0).trans rfl), ((qf BKp.out 0).trans rfl)⟩ (fun hHeld => ?_); refine with_tabW order.tab6 order.bits6 (fun HT_ HW_ => ?_)
  generalize W190.drew = W191 at DI HB BKa BKb BKc BKp NAa NAb NAc NAp hHeld ⊢
  refine xc (i := 0) (N := (some 39)) (v := ?_) (a' := ?_) #[true, false, false, false, false, false, false, false, false, false, false, false, false, false, false, false, false, false, false, false, false, false, false, false] rfl rfl (zc HT_.out HW_.out (by kernel_rfl)) (fun _ _ _ h => h) (Or.inl ⟨by rfl, ?_⟩) hHeld ?_ ?_
  rotate_left
  ·rintro w' ⟨s0, s1, s2, s3⟩
   go_simp
   with_reducible rfl
  rotate_left
  ·simp only [Act.put, List.setIfInBounds_toArray, List.set_cons_zero, List.set_cons_succ, qt, qu]
   rfl
  refine xc (i := 1) (N := (some 40)) (v := ?_) (a' := ?_) #[true, true, false, false, false, false, false, false, false, false, false, false, false, false, false, false, false, false, false, false, false, false, false, false] rfl rfl (zc HT_.out HW_.out (by kernel_rfl)) (fun _ _ _ h => h) (Or.inl ⟨by rfl, ?_⟩) hHeld ?_ ?_
  rotate_left
  ·rintro w' ⟨s0, s1, s2, s3⟩
   go_simp
   with_reducible rfl
  rotate_left
  ·simp only [Act.put, List.setIfInBounds_toArray, List.set_cons_zero, List.set_cons_succ, qt, qu]
   rfl
  refine xc (i := 3) (N := (some 42)) (v := ?_) (a' := ?_) #[true, true, false, true, false, false, false, false, false, false, false, false, false, false, false, false, false, false, false, false, false, false, false, false] rfl rfl (zc HT_.out HW_.out (by kernel_rfl)) (fun _ _ _ h => h) (Or.inl ⟨by rfl, ?_⟩) hHeld ?_ ?_
  rotate_left
  ·rintro w' ⟨s0, s1, s2, s3⟩
   go_simp
   with_reducible rfl
  rotate_left
  ·simp only [Act.put, List.setIfInBounds_toArray, List.set_cons_zero, List.set_cons_succ, qt, qu]
   rfl
  refine xc (i := 4) (N := (some 43)) (v := ?_) (a' := ?_) #[true, true, false, true, true, false, false, false, false, false, false, false, false, false, false, false, false, false, false, false, false, false, false, false] rfl rfl (zc HT_.out HW_.out (by kernel_rfl)) (fun _ _ _ h => h) (Or.inl ⟨by rfl, ?_⟩) hHeld ?_ ?_
  rotate_left
  ·rintro w' ⟨s0, s1, s2, s3⟩
   go_simp
   with_reducible rfl
  rotate_left
  ·simp only [Act.put, List.setIfInBounds_toArray, List.set_cons_zero, List.set_cons_succ, qt, qu]
   rfl
  refine one_ (i := 2) (N := (some 41)) #[true, true, true, true, true, false, false, false, false, false, false, false, false, false, false, false, false, false, false, false, false, false, false, false] rfl rfl (xn HT_.out (by kernel_rfl)) (by decide) (fun K hK => ?_)
  refine xx Tryd.func15 (by kernel_rfl) rfl #[.agg #[.slice Aa a.length ca], .agg #[.slice Ap p.length cp]] (by rfl) rfl rfl (by (try simp only [List.map_toArray, List.map_cons, List.map_nil]); first | done | rfl | (simp only [List.length_drop, List.length_take]; rfl)) ?_
  refine (matchT _ NAa.out NAp.out FIa.out FIp.out HM.out).mono ?_
  rintro e_ W192 ⟨rfl, hq⟩
  refine ⟨_, rfl, ?_⟩
  have di := DI.out.below hq
  have hb := qk HB.out hq
  have hk := KeepBut.of_below hq g none
  clear hq
  replace DI := qa.mk di
  replace HB := qa.mk hb
  replace BKa := qa.mk (KeepBut.blk hk BKa.out NEa.out (by simp))
  replace BKb := qa.mk (KeepBut.blk hk BKb.out NEb.out (by simp))
  replace BKc := qa.mk (KeepBut.blk hk BKc.out NEc.out (by simp))
  replace BKp := qa.mk (KeepBut.blk hk BKp.out NEp.out (by simp))
  replace NAa := qa.mk (NAa.out.keep (KeepT.of hk))
  replace NAb := qa.mk (NAb.out.keep (KeepT.of hk))
  replace NAc := qa.mk (NAc.out.keep (KeepT.of hk))
  replace NAp := qa.mk (NAp.out.keep (KeepT.of hk))
  clear di hb hk
  refine hK.out _ _ ⟨((qf BKa.out 0).trans rfl), ((qf BKb.out 0).trans rfl), ((qf BKc.out 0).trans rfl), ((qf BKp.out 0).trans rfl)⟩ (fun hHeld => ?_)
  clear hK K
  refine xk (a' := ?_) ?_ ?_
  rotate_left
  ·show Act.put _ (some 41) _ = _
   simp only [Act.put, List.setIfInBounds_toArray, List.set_cons_zero, List.set_cons_succ, qt, qu]
   rfl
  refine one_ (i := 5) (N := (some 44)) #[true, true, true, true, true, true, false, false, false, false, false, false, false, false, false, false, false, false, false, false, false, false, false, false] rfl rfl (xn HT_.out (by kernel_rfl)) (by decide) (fun K hK => ?_)
  refine xx Tryd.func15 (by kernel_rfl) rfl #[.agg #[.slice Ap p.length cp], .agg #[.slice Aa a.length ca]] (by rfl) rfl rfl (by (try simp only [List.map_toArray, List.map_cons, List.map_nil]); first | done | rfl | (simp only [List.length_drop, List.length_take]; rfl)) ?_
  refine (matchT _ NAp.out NAa.out FIp.out FIa.out (show matchS p a = false from (matchS_comm p a).trans HM.out)).mono ?_
  rintro e_ W193 ⟨rfl, hq⟩
  refine ⟨_, rfl, ?_⟩
  have di := DI.out.below hq
  have hb := qk HB.out hq
  have hk := KeepBut.of_below hq g none
  clear hq
  replace DI := qa.mk di
  replace HB := qa.mk hb
  replace BKa := qa.mk (KeepBut.blk hk BKa.out NEa.out (by simp))
  replace BKb := qa.mk (KeepBut.blk hk BKb.out NEb.out (by simp))
  replace BKc := qa.mk (KeepBut.blk hk BKc.out NEc.out (by simp))
  replace BKp := qa.mk (KeepBut.blk hk BKp.out NEp.out (by simp))
  replace NAa := qa.mk (NAa.out.keep (KeepT.of hk))
  replace NAb := qa.mk (NAb.out.keep (KeepT.of hk))
  replace NAc := qa.mk (NAc.out.keep (KeepT.of hk))
  replace NAp := qa.mk (NAp.out.keep (KeepT.of hk))
  clear di hb hk
  refine hK.out _ _ ⟨((qf BKa.out 0).trans rfl), ((qf BKb.out 0).trans rfl), ((qf BKc.out 0).trans rfl), ((qf BKp.out 0).trans rfl)⟩ (fun hHeld => ?_)
  clear hK K
  refine xk (a' := ?_) ?_ ?_
  rotate_left
  ·show Act.put _ (some 44) _ = _
   simp only [Act.put, List.setIfInBounds_toArray, List.set_cons_zero, List.set_cons_succ, qt, qu]
   rfl
  refine zn (i := 6) (N := (some 45)) (v := ?_) (a' := ?_) #[true, true, true, true, true, true, true, false, false, false, false, false, false, false, false, false, false, false, false, false, false, false, false, false] rfl rfl (q9 HT_.out (by kernel_rfl)) (fun _ _ _ h => h) (Or.inl ⟨by rfl, ?_⟩) ?_ ?_
  rotate_left
  ·intro w'
   go_simp
   with_reducible rfl
  rotate_left
  ·simp only [Act.put, List.setIfInBounds_toArray, List.set_cons_zero, List.set_cons_succ, qt, qu]
   rfl
  refine zn (i := 7) (N := (some 46)) (v := ?_) (a' := ?_) #[true, true, true, true, true, true, true, true, false, false, false, false, false, false, false, false, false, false, false, false, false, false, false, false] rfl rfl (q9 HT_.out (by kernel_rfl)) (fun _ _ _ h => h) (Or.inl ⟨by rfl, ?_⟩) ?_ ?_
  rotate_left
  ·intro w'
   go_simp
   with_reducible rfl
  rotate_left
  ·simp only [Act.put, List.setIfInBounds_toArray, List.set_cons_zero, List.set_cons_succ, qt, qu]
   rfl
  refine xc (i := 8) (N := (some 47)) (v := ?_) (a' := ?_) #[true, true, true, true, true, true, true, true, true, false, false, false, false, false, false, false, false, false, false, false, false, false, false, false] rfl rfl (zc HT_.out HW_.out (by kernel_rfl)) (fun _ _ _ h => h) (Or.inl ⟨by rfl, ?_⟩) hHeld ?_ ?_
  rotate_left
  ·rintro w' ⟨s0, s1, s2, s3⟩
   go_simp
   with_reducible rfl
  rotate_left
  ·simp only [Act.put, List.setIfInBounds_toArray, List.set_cons_zero, List.set_cons_succ, qt, qu]
   rfl
  refine xc (i := 9) (N := (some 48)) (v := ?_) (a' := ?_) #[true, true, true, true, true, true, true, true, true, true, false, false, false, false, false, false, false, false, false, false, false, false, false, false] rfl rfl (zc HT_.out HW_.out (by kernel_rfl)) (fun _ _ _ h => h) (Or.inl ⟨by rfl, ?_⟩) hHeld ?_ ?_
  rotate_left
  ·rintro w' ⟨s0, s1, s2, s3⟩
   go_simp
   with_reducible rfl
  rotate_left
  ·simp only [Act.put, List.setIfInBounds_toArray, List.set_cons_zero, List.set_cons_succ, qt, qu]
   rfl
  refine one_ (i := 10) (N := (some 49)) #[true, true, true, true, true, true, true, true, true, true, true, false, false, false, false, false, false, false, false, false, false, false, false, false] rfl rfl (xn HT_.out (by kernel_rfl)) (by decide) (fun K hK => ?_)
  refine xx Tryd.func15 (by kernel_rfl) rfl #[.agg #[.slice Aa a.length ca], .agg #[.slice Ap p.length cp]] (by rfl) rfl rfl (by (try simp only [List.map_toArray, List.map_cons, List.map_nil]); first | done | rfl | (simp only [List.length_drop, List.length_take]; rfl)) ?_
  refine (matchT _ NAa.out NAp.out FIa.out FIp.out HM.out).mono ?_
  rintro e_ W194 ⟨rfl, hq⟩
  refine ⟨_, rfl, ?_⟩
  have di := DI.out.below hq
  have hb := qk HB.out hq
  have hk := KeepBut.of_below hq g none
  clear hq
  replace DI := qa.mk di
  replace HB := qa.mk hb
  replace BKa := qa.mk (KeepBut.blk hk BKa.out NEa.out (by simp))
  replace BKb := qa.mk (KeepBut.blk hk BKb.out NEb.out (by simp))
  replace BKc := qa.mk (KeepBut.blk hk BKc.out NEc.out (by simp))
  replace BKp := qa.mk (KeepBut.blk hk BKp.out NEp.out (by simp))
  replace NAa := qa.mk (NAa.out.keep (KeepT.of hk))
  replace NAb := qa.mk (NAb.out.keep (KeepT.of hk))
  replace NAc := qa.mk (NAc.out.keep (KeepT.of hk))
  replace NAp := qa.mk (NAp.out.keep (KeepT.of hk))
  clear di hb hk
  refine hK.out _ _ ⟨((qf BKa.out 0).trans rfl), ((qf BKb.out 0).trans rfl), ((qf BKc.out 0).trans rfl), ((qf BKp.out 0).trans rfl)⟩ (fun hHeld => ?_)
  clear hK K
  refine xk (a' := ?_) ?_ ?_
  rotate_left
  ·show Act.put _ (some 49) _ = _
   simp only [Act.put, List.setIfInBounds_toArray, List.set_cons_zero, List.set_cons_succ, qt, qu]
   rfl
  refine zn (i := 11) (N := (some 50)) (v := ?_) (a' := ?_) #[true, true, true, true, true, true, true, true, true, true, true, true, false, false, false, false, false, false, false, false, false, false, false, false] rfl rfl (q9 HT_.out (by kernel_rfl)) (fun _ _ _ h => h) (Or.inl ⟨by rfl, ?_⟩) ?_ ?_
  rotate_left
  ·intro w'
   go_simp
   with_reducible rfl
  rotate_left
  ·simp only [Act.put, List.setIfInBounds_toArray, List.set_cons_zero, List.set_cons_succ, qt, qu]
   rfl
  refine zn (i := 12) (N := (some 51)) (v := ?_) (a' := ?_) #[true, true, true, true, true, true, true, true, true, true, true, true, true, false, false, false, false, false, false, false, false, false, false, false] rfl rfl (q9 HT_.out (by kernel_rfl)) (fun _ _ _ h => h) (Or.inl ⟨by rfl, ?_⟩) ?_ ?_
  rotate_left
  ·intro w'
   go_simp
   with_reducible rfl
  rotate_left
  ·simp only [Act.put, List.setIfInBounds_toArray, List.set_cons_zero, List.set_cons_succ, qt, qu]
   rfl
  refine zn (i := 13) (N := (some 52)) (v := undef) (a' := ?_) #[true, true, true, true, true, true, true, true, true, true, true, true, true, true, false, false, false, false, false, false, false, false, false, false] rfl rfl (q9 HT_.out (by kernel_rfl)) (fun _ _ _ h => h) (Or.inr ⟨by rfl, rfl⟩) ?_ ?_
  rotate_left
  ·simp only [Act.put, List.setIfInBounds_toArray, List.set_cons_zero, List.set_cons_succ, qt, qu]
   rfl
  refine zn (i := 14) (N := (some 53)) (v := undef) (a' := ?_) #[true, true, true, true, true, true, true, true, true, true, true, true, true, true, true, false, false, false, false, false, false, false, false, false] rfl rfl (q9 HT_.out (by kernel_rfl)) (fun _ _ _ h => h) (Or.inr ⟨by rfl, rfl⟩) ?_ ?_
  rotate_left
  ·simp only [Act.put, List.setIfInBounds_toArray, List.set_cons_zero, List.set_cons_succ, qt, qu]
   rfl
  refine zn (i := 15) (N := (some 54)) (v := undef) (a' := ?_) #[true, true, true, true, true, true, true, true, true, true, true, true, true, true, true, true, false, false, false, false, false, false, false, false] rfl rfl (q9 HT_.out (by kernel_rfl)) (fun _ _ _ h => h) (Or.inr ⟨by rfl, rfl⟩) ?_ ?_
  rotate_left
  ·simp only [Act.put, List.setIfInBounds_toArray, List.set_cons_zero, List.set_cons_succ, qt, qu]
   rfl
  refine zn (i := 16) (N := (some 55)) (v := undef) (a' := ?_) #[true, true, true, true, true, true, true, true, true, true, true, true, true, true, true, true, true, false, false, false, false, false, false, false] rfl rfl (q9 HT_.out (by kernel_rfl)) (fun _ _ _ h => h) (Or.inr ⟨by rfl, rfl⟩) ?_ ?_
  rotate_left
  ·simp only [Act.put, List.setIfInBounds_toArray, List.set_cons_zero, List.set_cons_succ, qt, qu]
   rfl
  refine zn (i := 17) (N := (some 56)) (v := undef) (a' := ?_) #[true, true, true, true, true, true, true, true, true, true, true, true, true, true, true, true, true, true, false, false, false, false, false, false] rfl rfl (q9 HT_.out (by kernel_rfl)) (fun _ _ _ h => h) (Or.inr ⟨by rfl, rfl⟩) ?_ ?_
  rotate_left
  ·simp only [Act.put, List.setIfInBounds_toArray, List.set_cons_zero, List.set_cons_succ, qt, qu]
   rfl
  refine zn (i := 18) (N := (some 57)) (v := undef) (a' := ?_) #[true, true, true, true, true, true, true, true, true, true, true, true, true, true, true, true, true, true, true, false, false, false, false, false] rfl rfl (q9 HT_.out (by kernel_rfl)) (fun _ _ _ h => h) (Or.inr ⟨by rfl, rfl⟩) ?_ ?_
  rotate_left
  ·simp only [Act.put, List.setIfInBounds_toArray, List.set_cons_zero, List.set_cons_succ, qt, qu]
   rfl
  refine zn (i := 19) (N := (some 58)) (v := undef) (a' := ?_) #[true, true, true, true, true, true, true, true, true, true, true, true, true, true, true, true, true, true, true, true, false, false, false, false] rfl rfl (q9 HT_.out (by kernel_rfl)) (fun _ _ _ h => h) (Or.inr ⟨by rfl, rfl⟩) ?_ ?_
  rotate_left
  ·simp only [Act.put, List.setIfInBounds_toArray, List.set_cons_zero, List.set_cons_succ, qt, qu]
   rfl
  refine zn (i := 20) (N := (some 59)) (v := undef) (a' := ?_) #[true, true, true, true, true, true, true, true, true, true, true, true, true, true, true, true, true, true, true, true, true, false, false, false] rfl rfl (q9 HT_.out (by kernel_rfl)) (fun _ _ _ h => h) (Or.inr ⟨by rfl, rfl⟩) ?_ ?_
  rotate_left
  ·simp only [Act.put, List.setIfInBounds_toArray, List.set_cons_zero, List.set_cons_succ, qt, qu]
   rfl
  refine zn (i := 21) (N := (some 60)) (v := ?_) (a' := ?_) #[true, true, true, true, true, true, true, true, true, true, true, true, true, true, true, true, true, true, true, true, true, true, false, false] rfl rfl (q9 HT_.out (by kernel_rfl)) (fun _ _ _ h => h) (Or.inl ⟨by rfl, ?_⟩) ?_ ?_
  rotate_left
  ·intro w'
   go_simp
   with_reducible rfl
  rotate_left
  ·simp only [Act.put, List.setIfInBounds_toArray, List.set_cons_zero, List.set_cons_succ, qt, qu]
   rfl
  refine zn (i := 22) (N := (some 61)) (v := ?_) (a' := ?_) #[true, true, true, true, true, true, true, true, true, true, true, true, true, true, true, true, true, true, true, true, true, true, true, false] rfl rfl (q9 HT_.out (by kernel_rfl)) (fun _ _ _ h => h) (Or.inl ⟨by rfl, ?_⟩) ?_ ?_
  rotate_left
  ·intro w'
   go_simp
   with_reducible rfl
  rotate_left
  ·simp only [Act.put, List.setIfInBounds_toArray, List.set_cons_zero, List.set_cons_succ, qt, qu]
   rfl
  refine zn (i := 23) (N := (some 8)) (v := ?_) (a' := ?_) #[true, true, true, true, true, true, true, true, true, true, true, true, true, true, true, true, true, true, true, true, true, true, true, true] rfl rfl (q9 HT_.out (by kernel_rfl)) (fun _ _ _ h => h) (Or.inl ⟨by rfl, ?_⟩) ?_ ?_
  rotate_left
  ·intro w'
   go_simp
   with_reducible rfl
  rotate_left
  ·simp only [Act.put, List.setIfInBounds_toArray, List.set_cons_zero, List.set_cons_succ, qt, qu]
   rfl
  refine done_ (done_of HT_.out (by kernel_rfl)) ?_
  go_upto_region 7 with (fail)
  have hb0 : Below (W194).heap.size W194 _ := (show Below W194.heap.size W194 W194.drew from kk (Below.refl _ _))
  have di := DI.out.below hb0
  have hb := qk HB.out hb0
  have hk := KeepBut.of_below hb0 g none
  clear hb0
  replace DI := qa.mk di
  replace HB := qa.mk hb
  replace BKa := qa.mk (KeepBut.blk hk BKa.out NEa.out (by simp))
  replace BKb := qa.mk (KeepBut.blk hk BKb.out NEb.out (by simp))
  replace BKc := qa.mk (KeepBut.blk hk BKc.out NEc.out (by simp))
  replace BKp := qa.mk (KeepBut.blk hk BKp.out NEp.out (by simp))
  replace NAa := qa.mk (NAa.out.keep (KeepT.of hk))
  replace NAb := qa.mk (NAb.out.keep (KeepT.of hk))
  replace NAc := qa.mk (NAc.out.keep (KeepT.of hk))
  replace NAp := qa.mk (NAp.out.keep (KeepT.of hk))
  clear di hb hk
  refine start_ (n := 39) (S := fun w' => w'.cell? ⟨ga, 0, none⟩ = some (.slice Aa a.length ca) ∧ w'.cell? ⟨gb, 0, none⟩ = some (.slice Ab b.length cb) ∧ w'.cell? ⟨gc, 0, none⟩ = some (.slice Ac c.length cc) ∧ w'.cell? ⟨gp, 0, none⟩ = some (.slice Ap p.length cp)) (ds := []) #[false, false, false, false, false, false, false, false, false, false, false, false, false, false, false, false, false, false, false, false, false, false, false, false, false, false, false, false, false, false, false, false, false, false, false, false, false, false, false] (by kernel_rfl) rfl rfl ⟨((qf BKa.out 0).trans rfl), ((qf BKb.out 0).trans rfl), ((qf BKc.out 0).trans rfl), ((qf BKp.out 0).trans rfl)⟩ (fun hHeld => ?_); refine with_tabW order.tab7 order.bits7 (fun HT_ HW_ => ?_)
  generalize W194.drew = W195 at DI HB BKa BKb BKc BKp NAa NAb NAc NAp hHeld ⊢
  refine one_ (i := 0) (N := (some 62)) #[true, false, false, false, false, false, false, false, false, false, false, false, false, false, false, false, false, false, false, false, false, false, false, false, false, false, false, false, false, false, false, false, false, false, false, false, false, false, false] rfl rfl (xn HT_.out (by kernel_rfl)) (by decide) (fun K hK => ?_)
  refine xx Tryd.func9 (by kernel_rfl) rfl #[] (by rfl) rfl rfl (by (try simp only [List.map_toArray, List.map_cons, List.map_nil]); first | done | rfl | (simp only [List.length_drop, List.length_take]; rfl)) ?_
  refine (awakeT _ (LibHeld.below HG.out HB.out)).mono ?_
  rintro e_ W196 ⟨rfl, hq⟩
  refine ⟨_, rfl, ?_⟩
  have di := DI.out.below hq
  have hb := qk HB.out hq
  have hk := KeepBut.of_below hq g none
  clear hq
  replace DI := qa.mk di
  replace HB := qa.mk hb
  replace BKa := qa.mk (KeepBut.blk hk BKa.out NEa.out (by simp))
  replace BKb := qa.mk (KeepBut.blk hk BKb.out NEb.out (by simp))
  replace BKc := qa.mk (KeepBut.blk hk BKc.out NEc.out (by simp))
  replace BKp := qa.mk (KeepBut.blk hk BKp.out NEp.out (by simp))
  replace NAa := qa.mk (NAa.out.keep (KeepT.of hk))
  replace NAb := qa.mk (NAb.out.keep (KeepT.of hk))
  replace NAc := qa.mk (NAc.out.keep (KeepT.of hk))
  replace NAp := qa.mk (NAp.out.keep (KeepT.of hk))
  clear di hb hk
  refine hK.out _ _ ⟨((qf BKa.out 0).trans rfl), ((qf BKb.out 0).trans rfl), ((qf BKc.out 0).trans rfl), ((qf BKp.out 0).trans rfl)⟩ (fun hHeld => ?_)
  clear hK K
  refine xk (a' := ?_) ?_ ?_
  rotate_left
  ·show Act.put _ (some 62) _ = _
   simp only [Act.put, List.setIfInBounds_toArray, List.set_cons_zero, List.set_cons_succ, qt, qu]
   rfl
  refine zn (i := 1) (N := (some 63)) (v := ?_) (a' := ?_) #[true, true, false, false, false, false, false, false, false, false, false, false, false, false, false, false, false, false, false, false, false, false, false, false, false, false, false, false, false, false, false, false, false, false, false, false, false, false, false] rfl rfl (q9 HT_.out (by kernel_rfl)) (fun _ _ _ h => h) (Or.inl ⟨by rfl, ?_⟩) ?_ ?_
  rotate_left
  ·intro w'
   go_simp
   with_reducible rfl
  rotate_left
  ·simp only [Act.put, List.setIfInBounds_toArray, List.set_cons_zero, List.set_cons_succ, qt, qu]
   rfl
  refine xc (i := 2) (N := (some 64)) (v := ?_) (a' := ?_) #[true, true, true, false, false, false, false, false, false, false, false, false, false, false, false, false, false, false, false, false, false, false, false, false, false, false, false, false, false, false, false, false, false, false, false, false, false, false, false] rfl rfl (zc HT_.out HW_.out (by kernel_rfl)) (fun _ _ _ h => h) (Or.inl ⟨by rfl, ?_⟩) hHeld ?_ ?_
  rotate_left
  ·rintro w' ⟨s0, s1, s2, s3⟩
   go_simp
   with_reducible rfl
  rotate_left
  ·simp only [Act.put, List.setIfInBounds_toArray, List.set_cons_zero, List.set_cons_succ, qt, qu]
   rfl
  refine xc (i := 3) (N := (some 65)) (v := ?_) (a' := ?_) #[true, true, true, true, false, false, false, false, false, false, false, false, false, false, false, false, false, false, false, false, false, false, false, false, false, false, false, false, false, false, false, false, false, false, false, false, false, false, false] rfl rfl (zc HT_.out HW_.out (by kernel_rfl)) (fun _ _ _ h => h) (Or.inl ⟨by rfl, ?_⟩) hHeld ?_ ?_
  rotate_left
  ·rintro w' ⟨s0, s1, s2, s3⟩
   go_simp
   with_reducible rfl
  rotate_left
  ·simp only [Act.put, List.setIfInBounds_toArray, List.set_cons_zero, List.set_cons_succ, qt, qu]
   rfl
  refine one_ (i := 4) (N := (some 66)) #[true, true, true, true, true, false, false, false, false, false, false, false, false, false, false, false, false, false, false, false, false, false, false, false, false, false, false, false, false, false, false, false, false, false, false, false, false, false, false] rfl rfl (xn HT_.out (by kernel_rfl)) (by decide) (fun K hK => ?_)
  refine xx Tryd.func15 (by kernel_rfl) rfl #[.agg #[.slice Aa a.length ca], .agg #[.slice Aa a.length ca]] (by rfl) rfl rfl (by (try simp only [List.map_toArray, List.map_cons, List.map_nil]); first | done | rfl | (simp only [List.length_drop, List.length_take]; rfl)) ?_
  refine (matchT _ NAa.out NAa.out FIa.out FIa.out (matchS_refl a)).mono ?_
  rintro e_ W197 ⟨rfl, hq⟩
  refine ⟨_, rfl, ?_⟩
  have di := DI.out.below hq
  have hb := qk HB.out hq
  have hk := KeepBut.of_below hq g none
  clear hq
  replace DI := qa.mk di
  replace HB := qa.mk hb
  replace BKa := qa.mk (KeepBut.blk hk BKa.out NEa.out (by simp))
  replace BKb := qa.mk (KeepBut.blk hk BKb.out NEb.out (by simp))
  replace BKc := qa.mk (KeepBut.blk hk BKc.out NEc.out (by simp))
  replace BKp := qa.mk (KeepBut.blk hk BKp.out NEp.out (by simp))
  replace NAa := qa.mk (NAa.out.keep (KeepT.of hk))
  replace NAb := qa.mk (NAb.out.keep (KeepT.of hk))
  replace NAc := qa.mk (NAc.out.keep (KeepT.of hk))
  replace NAp := qa.mk (NAp.out.keep (KeepT.of hk))
  clear di hb hk
  refine hK.out _ _ ⟨((qf BKa.out 0).trans rfl), ((qf BKb.out 0).trans rfl), ((qf BKc.out 0).trans rfl), ((qf BKp.out 0).trans rfl)⟩ (fun hHeld => ?_)
  clear hK K
  refine xk (a' := ?_) ?_ ?_
  rotate_left
  ·show Act.put _ (some 66) _ = _
   simp only [Act.put, List.setIfInBounds_toArray, List.set_cons_zero, List.set_cons_succ, qt, qu]
   rfl
  refine zn (i := 5) (N := (some 67)) (v := ?_) (a' := ?_) #[true, true, true, true, true, true, false, false, false, false, false, false, false, false, false, false, false, false, false, false, false, false, false, false, false, false, false, false, false, false, false, false, false, false, false, false, false, false, false] rfl rfl (q9 HT_.out (by kernel_rfl)) (fun _ _ _ h => h) (Or.inl ⟨by rfl, ?_⟩) ?_ ?_
  rotate_left
  ·intro w'
   go_simp
   with_reducible rfl
  rotate_left
  ·simp only [Act.put, List.setIfInBounds_toArray, List.set_cons_zero, List.set_cons_succ, qt, qu]
   rfl
  refine zn (i := 6) (N := (some 68)) (v := ?_) (a' := ?_) #[true, true, true, true, true, true, true, false, false, false, false, false, false, false, false, false, false, false, false, false, false, false, false, false, false, false, false, false, false, false, false, false, false, false, false, false, false, false, false] rfl rfl (q9 HT_.out (by kernel_rfl)) (fun _ _ _ h => h) (Or.inl ⟨by rfl, ?_⟩) ?_ ?_
  rotate_left
  ·intro w'
   go_simp
   with_reducible rfl
  rotate_left
  ·simp only [Act.put, List.setIfInBounds_toArray, List.set_cons_zero, List.set_cons_succ, qt, qu]
   rfl
  refine xc (i := 7) (N := (some 69)) (v := ?_) (a' := ?_) #[true, true, true, true, true, true, true, true, false, false, false, false, false, false, false, false, false, false, false, false, false, false, false, false, false, false, false, false, false, false, false, false, false, false, false, false, false, false, false] rfl rfl (zc HT_.out HW_.out (by kernel_rfl)) (fun _ _ _ h => h) (Or.inl ⟨by rfl, ?_⟩) hHeld ?_ ?_
  rotate_left
  ·rintro w' ⟨s0, s1, s2, s3⟩
   go_simp
   with_reducible rfl
  rotate_left
  ·simp only [Act.put, List.setIfInBounds_toArray, List.set_cons_zero, List.set_cons_succ, qt, qu]
   rfl
  refine xc (i := 8) (N := (some 70)) (v := ?_) (a' := ?_) #[true, true, true, true, true, true, true, true, true, false, false, false, false, false, false, false, false, false, false, false, false, false, false, false, false, false, false, false, false, false, false, false, false, false, false, false, false, false, false] rfl rfl (zc HT_.out HW_.out (by kernel_rfl)) (fun _ _ _ h => h) (Or.inl ⟨by rfl, ?_⟩) hHeld ?_ ?_
  rotate_left
  ·rintro w' ⟨s0, s1, s2, s3⟩
   go_simp
   with_reducible rfl
  rotate_left
  ·simp only [Act.put, List.setIfInBounds_toArray, List.set_cons_zero, List.set_cons_succ, qt, qu]
   rfl
  refine one_ (i := 9) (N := (some 71)) #[true, true, true, true, true, true, true, true, true, true, false, false, false, false, false, false, false, false, false, false, false, false, false, false, false, false, false, false, false, false, false, false, false, false, false, false, false, false, false] rfl rfl (xn HT_.out (by kernel_rfl)) (by decide) (fun K hK => ?_)
  refine xx Tryd.func17 (by kernel_rfl) rfl #[.agg #[.slice Aa a.length ca], .agg #[.slice Ab b.length cb]] (by rfl) rfl rfl (by (try simp only [List.map_toArray, List.map_cons, List.map_nil]); first | done | rfl | (simp only [List.length_drop, List.length_take]; rfl)) ?_
  refine (withinT _ NAa.out NAb.out FIa.out FIb.out HAB.out).mono ?_
  rintro e_ W198 ⟨rfl, hq⟩
  refine ⟨_, rfl, ?_⟩
  have di := DI.out.below hq
  have hb := qk HB.out hq
  have hk := KeepBut.of_below hq g none
  clear hq
  replace DI := qa.mk di
  replace HB := qa.mk hb
  replace BKa := qa.mk (KeepBut.blk hk BKa.out NEa.out (by simp))
  replace BKb := qa.mk (KeepBut.blk hk BKb.out NEb.out (by simp))
  replace BKc := qa.mk (KeepBut.blk hk BKc.out NEc.out (by simp))
  replace BKp := qa.mk (KeepBut.blk hk BKp.out NEp.out (by simp))
  replace NAa := qa.mk (NAa.out.keep (KeepT.of hk))
  replace NAb := qa.mk (NAb.out.keep (KeepT.of hk))
  replace NAc := qa.mk (NAc.out.keep (KeepT.of hk))
  replace NAp := qa.mk (NAp.out.keep (KeepT.of hk))
  clear di hb hk
  refine hK.out _ _ ⟨((qf BKa.out 0).trans rfl), ((qf BKb.out 0).trans rfl), ((qf BKc.out 0).trans rfl), ((qf BKp.out 0).trans rfl)⟩ (fun hHeld => ?_)
  clear hK K
  refine xk (a' := ?_) ?_ ?_
  rotate_left
  ·show Act.put _ (some 71) _ = _
   simp only [Act.put, List.setIfInBounds_toArray, List.set_cons_zero, List.set_cons_succ, qt, qu]
   rfl
  refine zn (i := 10) (N := (some 72)) (v := ?_) (a' := ?_) #[true, true, true, true, true, true, true, true, true, true, true, false, false, false, false, false, false, false, false, false, false, false, false, false, false, false, false, false, false, false, false, false, false, false, false, false, false, false, false] rfl rfl (q9 HT_.out (by kernel_rfl)) (fun _ _ _ h => h) (Or.inl ⟨by rfl, ?_⟩) ?_ ?_
  rotate_left
  ·intro w'
   go_simp
   with_reducible rfl
  rotate_left
  ·simp only [Act.put, List.setIfInBounds_toArray, List.set_cons_zero, List.set_cons_succ, qt, qu]
   rfl
  refine zn (i := 11) (N := (some 73)) (v := ?_) (a' := ?_) #[true, true, true, true, true, true, true, true, true, true, true, true, false, false, false, false, false, false, false, false, false, false, false, false, false, false, false, false, false, false, false, false, false, false, false, false, false, false, false] rfl rfl (q9 HT_.out (by kernel_rfl)) (fun _ _ _ h => h) (Or.inl ⟨by rfl, ?_⟩) ?_ ?_
  rotate_left
  ·intro w'
   go_simp
   with_reducible rfl
  rotate_left
  ·simp only [Act.put, List.setIfInBounds_toArray, List.set_cons_zero, List.set_cons_succ, qt, qu]
   rfl
  refine xc (i := 12) (N := (some 74)) (v := ?_) (a' := ?_) #[true, true, true, true, true, true, true, true, true, true, true, true, true, false, false, false, false, false, false, false, false, false, false, false, false, false, false, false, false, false, false, false, false, false, false, false, false, false, false] rfl rfl (zc HT_.out HW_.out (by kernel_rfl)) (fun _ _ _ h => h) (Or.inl ⟨by rfl, ?_⟩) hHeld ?_ ?_
  rotate_left
  ·rintro w' ⟨s0, s1, s2, s3⟩
   go_simp
   with_reducible rfl
  rotate_left
  ·simp only [Act.put, List.setIfInBounds_toArray, List.set_cons_zero, List.set_cons_succ, qt, qu]
   rfl
  refine xc (i := 13) (N := (some 75)) (v := ?_) (a' := ?_) #[true, true, true, true, true, true, true, true, true, true, true, true, true, true, false, false, false, false, false, false, false, false, false, false, false, false, false, false, false, false, false, false, false, false, false, false, false, false, false] rfl rfl (zc HT_.out HW_.out (by kernel_rfl)) (fun _ _ _ h => h) (Or.inl ⟨by rfl, ?_⟩) hHeld ?_ ?_
  rotate_left
  ·rintro w' ⟨s0, s1, s2, s3⟩
   go_simp
   with_reducible rfl
  rotate_left
  ·simp only [Act.put, List.setIfInBounds_toArray, List.set_cons_zero, List.set_cons_succ, qt, qu]
   rfl
  refine one_ (i := 14) (N := (some 76)) #[true, true, true, true, true, true, true, true, true, true, true, true, true, true, true, false, false, false, false, false, false, false, false, false, false, false, false, false, false, false, false, false, false, false, false, false, false, false, false] rfl rfl (xn HT_.out (by kernel_rfl)) (by decide) (fun K hK => ?_)
  refine xx Tryd.func17 (by kernel_rfl) rfl #[.agg #[.slice Ab b.length cb], .agg #[.slice Ac c.length cc]] (by rfl) rfl rfl (by (try simp only [List.map_toArray, List.map_cons, List.map_nil]); first | done | rfl | (simp only [List.length_drop, List.length_take]; rfl)) ?_
  refine (withinT _ NAb.out NAc.out FIb.out FIc.out HBC.out).mono ?_
  rintro e_ W199 ⟨rfl, hq⟩
  refine ⟨_, rfl, ?_⟩
  have di := DI.out.below hq
  have hb := qk HB.out hq
  have hk := KeepBut.of_below hq g none
  clear hq
  replace DI := qa.mk di
  replace HB := qa.mk hb
  replace BKa := qa.mk (KeepBut.blk hk BKa.out NEa.out (by simp))
  replace BKb := qa.mk (KeepBut.blk hk BKb.out NEb.out (by simp))
  replace BKc := qa.mk (KeepBut.blk hk BKc.out NEc.out (by simp))
  replace BKp := qa.mk (KeepBut.blk hk BKp.out NEp.out (by simp))
  replace NAa := qa.mk (NAa.out.keep (KeepT.of hk))
  replace NAb := qa.mk (NAb.out.keep (KeepT.of hk))
  replace NAc := qa.mk (NAc.out.keep (KeepT.of hk))
  replace NAp := qa.mk (NAp.out.keep (KeepT.of hk))
  clear di hb hk
  refine hK.out _ _ ⟨((qf BKa.out 0).trans rfl), ((qf BKb.out 0).trans rfl), ((qf BKc.out 0).trans rfl), ((qf BKp.out 0).trans rfl)⟩ (fun hHeld => ?_)
  clear hK K
  refine xk (a' := ?_) ?_ ?_
  rotate_left
  ·show Act.put _ (some 76) _ = _
   simp only [Act.put, List.setIfInBounds_toArray, List.set_cons_zero, List.set_cons_succ, qt, qu]
   rfl
  refine zn (i := 15) (N := (some 77)) (v := ?_) (a' := ?_) #[true, true, true, true, true, true, true, true, true, true, true, true, true, true, true, true, false, false, false, false, false, false, false, false, false, false, false, false, false, false, false, false, false, false, false, false, false, false, false] rfl rfl (q9 HT_.out (by kernel_rfl)) (fun _ _ _ h => h) (Or.inl ⟨by rfl, ?_⟩) ?_ ?_
  rotate_left
  ·intro w'
   go_simp
   with_reducible rfl
  rotate_left
  ·simp only [Act.put, List.setIfInBounds_toArray, List.set_cons_zero, List.set_cons_succ, qt, qu]
   rfl
  refine zn (i := 16) (N := (some 78)) (v := ?_) (a' := ?_) #[true, true, true, true, true, true, true, true, true, true, true, true, true, true, true, true, true, false, false, false, false, false, false, false, false, false, false, false, false, false, false, false, false, false, false, false, false, false, false] rfl rfl (q9 HT_.out (by kernel_rfl)) (fun _ _ _ h => h) (Or.inl ⟨by rfl, ?_⟩) ?_ ?_
  rotate_left
  ·intro w'
   go_simp
   with_reducible rfl
  rotate_left
  ·simp only [Act.put, List.setIfInBounds_toArray, List.set_cons_zero, List.set_cons_succ, qt, qu]
   rfl
  refine xc (i := 17) (N := (some 79)) (v := ?_) (a' := ?_) #[true, true, true, true, true, true, true, true, true, true, true, true, true, true, true, true, true, true, false, false, false, false, false, false, false, false, false, false, false, false, false, false, false, false, false, false, false, false, false] rfl rfl (zc HT_.out HW_.out (by kernel_rfl)) (fun _ _ _ h => h) (Or.inl ⟨by rfl, ?_⟩) hHeld ?_ ?_
  rotate_left
  ·rintro w' ⟨s0, s1, s2, s3⟩
   go_simp
   with_reducible rfl
  rotate_left
  ·simp only [Act.put, List.setIfInBounds_toArray, List.set_cons_zero, List.set_cons_succ, qt, qu]
   rfl
  refine xc (i := 18) (N := (some 80)) (v := ?_) (a' := ?_) #[true, true, true, true, true, true, true, true, true, true, true, true, true, true, true, true, true, true, true, false, false, false, false, false, false, false, false, false, false, false, false, false, false, false, false, false, false, false, false] rfl rfl (zc HT_.out HW_.out (by kernel_rfl)) (fun _ _ _ h => h) (Or.inl ⟨by rfl, ?_⟩) hHeld ?_ ?_
  rotate_left
  ·rintro w' ⟨s0, s1, s2, s3⟩
   go_simp
   with_reducible rfl
  rotate_left
  ·simp only [Act.put, List.setIfInBounds_toArray, List.set_cons_zero, List.set_cons_succ, qt, qu]
   rfl
  refine one_ (i := 19) (N := (some 81)) #[true, true, true, true, true, true, true, true, true, true, true, true, true, true, true, true, true, true, true, true, false, false, false, false, false, false, false, false, false, false, false, false, false, false, false, false, false, false, false] rfl rfl (xn HT_.out (by kernel_rfl)) (by decide) (fun K hK => ?_)
  refine xx Tryd.func17 (by kernel_rfl) rfl #[.agg #[.slice Aa a.length ca], .agg #[.slice Ac c.length cc]] (by rfl) rfl rfl (by (try simp only [List.map_toArray, List.map_cons, List.map_nil]); first | done | rfl | (simp only [List.length_drop, List.length_take]; rfl)) ?_
  refine (withinT _ NAa.out NAc.out FIa.out FIc.out HAC.out).mono ?_
  rintro e_ W200 ⟨rfl, hq⟩
  refine ⟨_, rfl, ?_⟩
  have di := DI.out.below hq
  have hb := qk HB.out hq
  have hk := KeepBut.of_below hq g none
  clear hq
  replace DI := qa.mk di
  replace HB := qa.mk hb
  replace BKa := qa.mk (KeepBut.blk hk BKa.out NEa.out (by simp))
  replace BKb := qa.mk (KeepBut.blk hk BKb.out NEb.out (by simp))
  replace BKc := qa.mk (KeepBut.blk hk BKc.out NEc.out (by simp))
  replace BKp := qa.mk (KeepBut.blk hk BKp.out NEp.out (by simp))
  replace NAa := qa.mk (NAa.out.keep (KeepT.of hk))
  replace NAb := qa.mk (NAb.out.keep (KeepT.of hk))
  replace NAc := qa.mk (NAc.out.keep (KeepT.of hk))
  replace NAp := qa.mk (NAp.out.keep (KeepT.of hk))
  clear di hb hk
  refine hK.out _ _ ⟨((qf BKa.out 0).trans rfl), ((qf BKb.out 0).trans rfl), ((qf BKc.out 0).trans rfl), ((qf BKp.out 0).trans rfl)⟩ (fun hHeld => ?_)
  clear hK K
  refine xk (a' := ?_) ?_ ?_
  rotate_left
  ·show Act.put _ (some 81) _ = _
   simp only [Act.put, List.setIfInBounds_toArray, List.set_cons_zero, List.set_cons_succ, qt, qu]
   rfl
  refine zn (i := 20) (N := (some 82)) (v := ?_) (a' := ?_) #[true, true, true, true, true, true, true, true, true, true, true, true, true, true, true, true, true, true, true, true, true, false, false, false, false, false, false, false, false, false, false, false, false, false, false, false, false, false, false] rfl rfl (q9 HT_.out (by kernel_rfl)) (fun _ _ _ h => h) (Or.inl ⟨by rfl, ?_⟩) ?_ ?_
  rotate_left
  ·intro w'
   go_simp
   with_reducible rfl
  rotate_left
  ·simp only [Act.put, List.setIfInBounds_toArray, List.set_cons_zero, List.set_cons_succ, qt, qu]
   rfl
  refine zn (i := 21) (N := (some 83)) (v := ?_) (a' := ?_) #[true, true, true, true, true, true, true, true, true, true, true, true, true, true, true, true, true, true, true, true, true, true, false, false, false, false, false, false, false, false, false, false, false, false, false, false, false, false, false] rfl rfl (q9 HT_.out (by kernel_rfl)) (fun _ _ _ h => h) (Or.inl ⟨by rfl, ?_⟩) ?_ ?_
  rotate_left
  ·intro w'
   go_simp
   with_reducible rfl
  rotate_left
  ·simp only [Act.put, List.setIfInBounds_toArray, List.set_cons_zero, List.set_cons_succ, qt, qu]
   rfl
  refine zn (i := 22) (N := (some 84)) (v := ?_) (a' := ?_) #[true, true, true, true, true, true, true, true, true, true, true, true, true, true, true, true, true, true, true, true, true, true, true, false, false, false, false, false, false, false, false, false, false, false, false, false, false, false, false] rfl rfl (q9 HT_.out (by kernel_rfl)) (fun _ _ _ h => h) (Or.inl ⟨by rfl, ?_⟩) ?_ ?_
  rotate_left
  ·intro w'
   go_simp
   with_reducible rfl
  rotate_left
  ·simp only [Act.put, List.setIfInBounds_toArray, List.set_cons_zero, List.set_cons_succ, qt, qu]
   rfl
  refine zn (i := 23) (N := (some 85)) (v := ?_) (a' := ?_) #[true, true, true, true, true, true, true, true, true, true, true, true, true, true, true, true, true, true, true, true, true, true, true, true, false, false, false, false, false, false, false, false, false, false, false, false, false, false, false] rfl rfl (q9 HT_.out (by kernel_rfl)) (fun _ _ _ h => h) (Or.inl ⟨by rfl, ?_⟩) ?_ ?_
  rotate_left
  ·intro w'
   go_simp
   with_reducible rfl
  rotate_left
  ·simp only [Act.put, List.setIfInBounds_toArray, List.set_cons_zero, List.set_cons_succ, qt, qu]
   rfl
  refine zn (i := 24) (N := (some 86)) (v := ?_) (a' := ?_) #[true, true, true, true, true, true, true, true, true, true, true, true, true, true, true, true, true, true, true, true, true, true, true, true, true, false, false, false, false, false, false, false, false, false, false, false, false, false, false] rfl rfl (q9 HT_.out (by kernel_rfl)) (fun _ _ _ h => h) (Or.inl ⟨by rfl, ?_⟩) ?_ ?_
  rotate_left
  ·intro w'
   go_simp
   with_reducible rfl
  rotate_left
  ·simp only [Act.put, List.setIfInBounds_toArray, List.set_cons_zero, List.set_cons_succ, qt, qu]
   rfl
  refine xc (i := 25) (N := (some 87)) (v := ?_) (a' := ?_) #[true, true, true, true, true, true, true, true, true, true, true, true, true, true, true, true, true, true, true, true, true, true, true, true, true, true, false, false, false, false, false, false, false, false, false, false, false, false, false] rfl rfl (zc HT_.out HW_.out (by kernel_rfl)) (fun _ _ _ h => h) (Or.inl ⟨by rfl, ?_⟩) hHeld ?_ ?_
  rotate_left
  ·rintro w' ⟨s0, s1, s2, s3⟩
   go_simp
   with_reducible rfl
  rotate_left
  ·simp only [Act.put, List.setIfInBounds_toArray, List.set_cons_zero, List.set_cons_succ, qt, qu]
   rfl
  refine xc (i := 26) (N := (some 88)) (v := ?_) (a' := ?_) #[true, true, true, true, true, true, true, true, true, true, true, true, true, true, true, true, true, true, true, true, true, true, true, true, true, true, true, false, false, false, false, false, false, false, false, false, false, false, false] rfl rfl (zc HT_.out HW_.out (by kernel_rfl)) (fun _ _ _ h => h) (Or.inl ⟨by rfl, ?_⟩) hHeld ?_ ?_
  rotate_left
  ·rintro w' ⟨s0, s1, s2, s3⟩
   go_simp
   with_reducible rfl
  rotate_left
  ·simp only [Act.put, List.setIfInBounds_toArray, List.set_cons_zero, List.set_cons_succ, qt, qu]
   rfl
  refine xc (i := 28) (N := (some 90)) (v := ?_) (a' := ?_) #[true, true, true, true, true, true, true, true, true, true, true, true, true, true, true, true, true, true, true, true, true, true, true, true, true, true, true, false, true, false, false, false, false, false, false, false, false, false, false] rfl rfl (zc HT_.out HW_.out (by kernel_rfl)) (fun _ _ _ h => h) (Or.inl ⟨by rfl, ?_⟩) hHeld ?_ ?_
  rotate_left
  ·rintro w' ⟨s0, s1, s2, s3⟩
   go_simp
   with_reducible rfl
  rotate_left
  ·simp only [Act.put, List.setIfInBounds_toArray, List.set_cons_zero, List.set_cons_succ, qt, qu]
   rfl
  refine xc (i := 29) (N := (some 91)) (v := ?_) (a' := ?_) #[true, true, true, true, true, true, true, true, true, true, true, true, true, true, true, true, true, true, true, true, true, true, true, true, true, true, true, false, true, true, false, false, false, false, false, false, false, false, false] rfl rfl (zc HT_.out HW_.out (by kernel_rfl)) (fun _ _ _ h => h) (Or.inl ⟨by rfl, ?_⟩) hHeld ?_ ?_
  rotate_left
  ·rintro w' ⟨s0, s1, s2, s3⟩
   go_simp
   with_reducible rfl
  rotate_left
  ·simp only [Act.put, List.setIfInBounds_toArray, List.set_cons_zero, List.set_cons_succ, qt, qu]
   rfl
  refine one_ (i := 27) (N := (some 89)) #[true, true, true, true, true, true, true, true, true, true, true, true, true, true, true, true, true, true, true, true, true, true, true, true, true, true, true, true, true, true, false, false, false, false, false, false, false, false, false] rfl rfl (xn HT_.out (by kernel_rfl)) (by decide) (fun K hK => ?_)
  refine xx Tryd.func15 (by kernel_rfl) rfl #[.agg #[.slice Aa a.length ca], .agg #[.slice Ab b.length cb]] (by rfl) rfl rfl (by (try simp only [List.map_toArray, List.map_cons, List.map_nil]); first | done | rfl | (simp only [List.length_drop, List.length_take]; rfl)) ?_
  refine (matchT _ NAa.out NAb.out FIa.out FIb.out HMB.out).mono ?_
  rintro e_ W201 ⟨rfl, hq⟩
  refine ⟨_, rfl, ?_⟩
  have di := DI.out.below hq
  have hb := qk HB.out hq
  have hk := KeepBut.of_below hq g none
  clear hq
  replace DI := qa.mk di
  replace HB := qa.mk hb
  replace BKa := qa.mk (KeepBut.blk hk BKa.out NEa.out (by simp))
  replace BKb := qa.mk (KeepBut.blk hk BKb.out NEb.out (by simp))
  replace BKc := qa.mk (KeepBut.blk hk BKc.out NEc.out (by simp))
  replace BKp := qa.mk (KeepBut.blk hk BKp.out NEp.out (by simp))
  replace NAa := qa.mk (NAa.out.keep (KeepT.of hk))
  replace NAb := qa.mk (NAb.out.keep (KeepT.of hk))
  replace NAc := qa.mk (NAc.out.keep (KeepT.of hk))
  replace NAp := qa.mk (NAp.out.keep (KeepT.of hk))
  clear di hb hk
  refine hK.out _ _ ⟨((qf BKa.out 0).trans rfl), ((qf BKb.out 0).trans rfl), ((qf BKc.out 0).trans rfl), ((qf BKp.out 0).trans rfl)⟩ (fun hHeld => ?_)
  clear hK K
  refine xk (a' := ?_) ?_ ?_
  rotate_left
  ·show Act.put _ (some 89) _ = _
   simp only [Act.put, List.setIfInBounds_toArray, List.set_cons_zero, List.set_cons_succ, qt, qu]
   rfl
  refine one_ (i := 30) (N := (some 92)) #[true, true, true, true, true, true, true, true, true, true, true, true, true, true, true, true, true, true, true, true, true, true, true, true, true, true, true, true, true, true, true, false, false, false, false, false, false, false, false] rfl rfl (xn HT_.out (by kernel_rfl)) (by decide) (fun K hK => ?_)
  refine xx Tryd.func17 (by kernel_rfl) rfl #[.agg #[.slice Aa a.length ca], .agg #[.slice Ab b.length cb]] (by rfl) rfl rfl (by (try simp only [List.map_toArray, List.map_cons, List.map_nil]); first | done | rfl | (simp only [List.length_drop, List.length_take]; rfl)) ?_
  refine (withinT _ NAa.out NAb.out FIa.out FIb.out HAB.out).mono ?_
  rintro e_ W202 ⟨rfl, hq⟩
  refine ⟨_, rfl, ?_⟩
  have di := DI.out.below hq
  have hb := qk HB.out hq
  have hk := KeepBut.of_below hq g none
  clear hq
  replace DI := qa.mk di
  replace HB := qa.mk hb
  replace BKa := qa.mk (KeepBut.blk hk BKa.out NEa.out (by simp))
  replace BKb := qa.mk (KeepBut.blk hk BKb.out NEb.out (by simp))
  replace BKc := qa.mk (KeepBut.blk hk BKc.out NEc.out (by simp))
  replace BKp := qa.mk (KeepBut.blk hk BKp.out NEp.out (by simp))
  replace NAa := qa.mk (NAa.out.keep (KeepT.of hk))
  replace NAb := qa.mk (NAb.out.keep (KeepT.of hk))
  replace NAc := qa.mk (NAc.out.keep (KeepT.of hk))
  replace NAp := qa.mk (NAp.out.keep (KeepT.of hk))
  clear di hb hk
  refine hK.out _ _ ⟨((qf BKa.out 0).trans rfl), ((qf BKb.out 0).trans rfl), ((qf BKc.out 0).trans rfl), ((qf BKp.out 0).trans rfl)⟩ (fun hHeld => ?_)
  clear hK K
  refine xk (a' := ?_) ?_ ?_
  rotate_left
  ·show Act.put _ (some 92) _ = _
   simp only [Act.put, List.setIfInBounds_toArray, List.set_cons_zero, List.set_cons_succ, qt, qu]
   rfl
  refine zn (i := 31) (N := (some 93)) (v := ?_) (a' := ?_) #[true, true, true, true, true, true, true, true, true, true, true, true, true, true, true, true, true, true, true, true, true, true, true, true, true, true, true, true, true, true, true, true, false, false, false, false, false, false, false] rfl rfl (q9 HT_.out (by kernel_rfl)) (fun _ _ _ h => h) (Or.inl ⟨by rfl, ?_⟩) ?_ ?_
  rotate_left
  ·intro w'
   go_simp
   with_reducible rfl
  rotate_left
  ·simp only [Act.put, List.setIfInBounds_toArray, List.set_cons_zero, List.set_cons_succ, qt, qu]
   rfl
  refine xc (i := 32) (N := (some 94)) (v := ?_) (a' := ?_) #[true, true, true, true, true, true, true, true, true, true, true, true, true, true, true, true, true, true, true, true, true, true, true, true, true, true, true, true, true, true, true, true, true, false, false, false, false, false, false] rfl rfl (zc HT_.out HW_.out (by kernel_rfl)) (fun _ _ _ h => h) (Or.inl ⟨by rfl, ?_⟩) hHeld ?_ ?_
  rotate_left
  ·rintro w' ⟨s0, s1, s2, s3⟩
   go_simp
   with_reducible rfl
  rotate_left
  ·simp only [Act.put, List.setIfInBounds_toArray, List.set_cons_zero, List.set_cons_succ, qt, qu]
   rfl
  refine xc (i := 33) (N := (some 95)) (v := ?_) (a' := ?_) #[true, true, true, true, true, true, true, true, true, true, true, true, true, true, true, true, true, true, true, true, true, true, true, true, true, true, true, true, true, true, true, true, true, true, false, false, false, false, false] rfl rfl (zc HT_.out HW_.out (by kernel_rfl)) (fun _ _ _ h => h) (Or.inl ⟨by rfl, ?_⟩) hHeld ?_ ?_
  rotate_left
  ·rintro w' ⟨s0, s1, s2, s3⟩
   go_simp
   with_reducible rfl
  rotate_left
  ·simp only [Act.put, List.setIfInBounds_toArray, List.set_cons_zero, List.set_cons_succ, qt, qu]
   rfl
  refine one_ (i := 34) (N := (some 96)) #[true, true, true, true, true, true, true, true, true, true, true, true, true, true, true, true, true, true, true, true, true, true, true, true, true, true, true, true, true, true, true, true, true, true, true, false, false, false, false] rfl rfl (xn HT_.out (by kernel_rfl)) (by decide) (fun K hK => ?_)
  refine xx Tryd.func17 (by kernel_rfl) rfl #[.agg #[.slice Ab b.length cb], .agg #[.slice Aa a.length ca]] (by rfl) rfl rfl (by (try simp only [List.map_toArray, List.map_cons, List.map_nil]); first | done | rfl | (simp only [List.length_drop, List.length_take]; rfl)) ?_
  refine (withinT _ NAb.out NAa.out FIb.out FIa.out HBA.out).mono ?_
  rintro e_ W203 ⟨rfl, hq⟩
  refine ⟨_, rfl, ?_⟩
  have di := DI.out.below hq
  have hb := qk HB.out hq
  have hk := KeepBut.of_below hq g none
  clear hq
  replace DI := qa.mk di
  replace HB := qa.mk hb
  replace BKa := qa.mk (KeepBut.blk hk BKa.out NEa.out (by simp))
  replace BKb := qa.mk (KeepBut.blk hk BKb.out NEb.out (by simp))
  replace BKc := qa.mk (KeepBut.blk hk BKc.out NEc.out (by simp))
  replace BKp := qa.mk (KeepBut.blk hk BKp.out NEp.out (by simp))
  replace NAa := qa.mk (NAa.out.keep (KeepT.of hk))
  replace NAb := qa.mk (NAb.out.keep (KeepT.of hk))
  replace NAc := qa.mk (NAc.out.keep (KeepT.of hk))
  replace NAp := qa.mk (NAp.out.keep (KeepT.of hk))
  clear di hb hk
  refine hK.out _ _ ⟨((qf BKa.out 0).trans rfl), ((qf BKb.out 0).trans rfl), ((qf BKc.out 0).trans rfl), ((qf BKp.out 0).trans rfl)⟩ (fun hHeld => ?_)
  clear hK K
  refine xk (a' := ?_) ?_ ?_
  rotate_left
  ·show Act.put _ (some 96) _ = _
   simp only [Act.put, List.setIfInBounds_toArray, List.set_cons_zero, List.set_cons_succ, qt, qu]
   rfl
  refine zn (i := 35) (N := (some 97)) (v := ?_) (a' := ?_) #[true, true, true, true, true, true, true, true, true, true, true, true, true, true, true, true, true, true, true, true, true, true, true, true, true, true, true, true, true, true, true, true, true, true, true, true, false, false, false] rfl rfl (q9 HT_.out (by kernel_rfl)) (fun _ _ _ h => h) (Or.inl ⟨by rfl, ?_⟩) ?_ ?_
  rotate_left
  ·intro w'
   go_simp
   with_reducible rfl
  rotate_left
  ·simp only [Act.put, List.setIfInBounds_toArray, List.set_cons_zero, List.set_cons_succ, qt, qu]
   rfl
  refine zn (i := 36) (N := (some 98)) (v := ?_) (a' := ?_) #[true, true, true, true, true, true, true, true, true, true, true, true, true, true, true, true, true, true, true, true, true, true, true, true, true, true, true, true, true, true, true, true, true, true, true, true, true, false, false] rfl rfl (q9 HT_.out (by kernel_rfl)) (fun _ _ _ h => h) (Or.inl ⟨by rfl, ?_⟩) ?_ ?_
  rotate_left
  ·intro w'
   go_simp
   with_reducible rfl
  rotate_left
  ·simp only [Act.put, List.setIfInBounds_toArray, List.set_cons_zero, List.set_cons_succ, qt, qu]
   rfl
  refine zn (i := 37) (N := (some 99)) (v := ?_) (a' := ?_) #[true, true, true, true, true, true, true, true, true, true, true, true, true, true, true, true, true, true, true, true, true, true, true, true, true, true, true, true, true, true, true, true, true, true, true, true, true, true, false] rfl rfl (q9 HT_.out (by kernel_rfl)) (fun _ _ _ h => h) (Or.inl ⟨by rfl, ?_⟩) ?_ ?_
  rotate_left
  ·intro w'
   go_simp
   with_reducible rfl
  rotate_left
  ·simp only [Act.put, List.setIfInBounds_toArray, List.set_cons_zero, List.set_cons_succ, qt, qu]
   rfl
  refine zn (i := 38) (N := (some 2)) (v := ?_) (a' := ?_) #[true, true, true, true, true, true, true, true, true, true, true, true, true, true, true, true, true, true, true, true, true, true, true, true, true, true, true, true, true, true, true, true, true, true, true, true, true, true, true] rfl rfl (q9 HT_.out (by kernel_rfl)) (fun _ _ _ h => h) (Or.inl ⟨by rfl, ?_⟩) ?_ ?_
  rotate_left
  ·intro w'
   go_simp
   with_reducible rfl
  rotate_left
  ·simp only [Act.put, List.setIfInBounds_toArray, List.set_cons_zero, List.set_cons_succ, qt, qu]
   rfl
  refine done_ (done_of HT_.out (by kernel_rfl)) ?_
  try go_wp2
  go_ret
  exact ⟨rfl, HB.out⟩
 | true =>
  have HM := qa.mk hm
  clear hm
  have hb0 : Below (W190).heap.size W190 _ := (show Below W190.heap.size W190 W190.drew from kk (Below.refl _ _))
  have di := DI.out.below hb0
  have hb := qk HB.out hb0
  have hk := KeepBut.of_below hb0 g none
  clear hb0
  replace DI := qa.mk di
  replace HB := qa.mk hb
  replace BKa := qa.mk (KeepBut.blk hk BKa.out NEa.out (by simp))
  replace BKb := qa.mk (KeepBut.blk hk BKb.out NEb.out (by simp))
  replace BKc := qa.mk (KeepBut.blk hk BKc.out NEc.out (by simp))
  replace BKp := qa.mk (KeepBut.blk hk BKp.out NEp.out (by simp))
  replace NAa := qa.mk (NAa.out.keep (KeepT.of hk))
  replace NAb := qa.mk (NAb.out.keep (KeepT.of hk))
  replace NAc := qa.mk (NAc.out.keep (KeepT.of hk))
  replace NAp := qa.mk (NAp.out.keep (KeepT.of hk))
  clear di hb hk
  refine start_ (n := 24) (S := fun w' => w'.cell? ⟨ga, 0, none⟩ = some (.slice Aa a.length ca) ∧ w'.cell? ⟨gb, 0, none⟩ = some (.slice Ab b.length cb) ∧ w'.cell? ⟨gc, 0, none⟩ = some (.slice Ac c.length cc) ∧ w'.cell? ⟨gp, 0, none⟩ = some (.slice Ap p.length cp)) (ds := []) #[false, false, false, false, false, false, false, false, false, false, false, false, false, false, false, false, false, false, false, false, false, false, false, false] (by kernel_rfl) rfl rfl ⟨((qf BKa.out 0).trans rfl), ((qf BKb.out 0).trans rfl), ((qf BKc.out 0).trans rfl), ((qf BKp.out 0).trans rfl)⟩ (fun hHeld => ?_); refine with_tabW order.tab6 order.bits6 (fun HT_ HW_ => ?_)
  generalize W190.drew = W291 at DI HB BKa BKb BKc BKp NAa NAb NAc NAp hHeld ⊢
  refine xc (i := 0) (N := (some 39)) (v := ?_) (a' := ?_) #[true, false, false, false, false, false, false, false, false, false, false, false, false, false, false, false, false, false, false, false, false, false, false, false] rfl rfl (zc HT_.out HW_.out (by kernel_rfl)) (fun _ _ _ h => h) (Or.inl ⟨by rfl, ?_⟩) hHeld ?_ ?_
  rotate_left
  ·rintro w' ⟨s0, s1, s2, s3⟩
   go_simp
   with_reducible rfl
  rotate_left
  ·simp only [Act.put, List.setIfInBounds_toArray, List.set_cons_zero, List.set_cons_succ, qt, qu]
   rfl
  refine xc (i := 1) (N := (some 40)) (v := ?_) (a' := ?_) #[true, true, false, false, false, false, false, false, false, false, false, false, false, false, false, false, false, false, false, false, false, false, false, false] rfl rfl (zc HT_.out HW_.out (by kernel_rfl)) (fun _ _ _ h => h) (Or.inl ⟨by rfl, ?_⟩) hHeld ?_ ?_
  rotate_left
  ·rintro w' ⟨s0, s1, s2, s3⟩
   go_simp
   with_reducible rfl
  rotate_left
  ·simp only [Act.put, List.setIfInBounds_toArray, List.set_cons_zero, List.set_cons_succ, qt, qu]
   rfl
  refine xc (i := 3) (N := (some 42)) (v := ?_) (a' := ?_) #[true, true, false, true, false, false, false, false, false, false, false, false, false, false, false, false, false, false, false, false, false, false, false, false] rfl rfl (zc HT_.out HW_.out (by kernel_rfl)) (fun _ _ _ h => h) (Or.inl ⟨by rfl, ?_⟩) hHeld ?_ ?_
  rotate_left
  ·rintro w' ⟨s0, s1, s2, s3⟩
   go_simp
   with_reducible rfl
  rotate_left
  ·simp only [Act.put, List.setIfInBounds_toArray, List.set_cons_zero, List.set_cons_succ, qt, qu]
   rfl
  refine xc (i := 4) (N := (some 43)) (v := ?_) (a' := ?_) #[true, true, false, true, true, false, false, false, false, false, false, false, false, false, false, false, false, false, false, false, false, false, false, false] rfl rfl (zc HT_.out HW_.out (by kernel_rfl)) (fun _ _ _ h => h) (Or.inl ⟨by rfl, ?_⟩) hHeld ?_ ?_
  rotate_left
  ·rintro w' ⟨s0, s1, s2, s3⟩
   go_simp
   with_reducible rfl
  rotate_left
  ·simp only [Act.put, List.setIfInBounds_toArray, List.set_cons_zero, List.set_cons_succ, qt, qu]
   rfl
  refine one_ (i := 2) (N := (some 41)) #[true, true, true, true, true, false, false, false, false, false, false, false, false, false, false, false, false, false, false, false, false, false, false, false] rfl rfl (xn HT_.out (by kernel_rfl)) (by decide) (fun K hK => ?_)
  refine xx Tryd.func15 (by kernel_rfl) rfl #[.agg #[.slice Aa a.length ca], .agg #[.slice Ap p.length cp]] (by rfl) rfl rfl (by (try simp only [List.map_toArray, List.map_cons, List.map_nil]); first | done | rfl | (simp only [List.length_drop, List.length_take]; rfl)) ?_
  refine (matchT _ NAa.out NAp.out FIa.out FIp.out HM.out).mono ?_
  rintro e_ W292 ⟨rfl, hq⟩
  refine ⟨_, rfl, ?_⟩
  have di := DI.out.below hq
  have hb := qk HB.out hq
  have hk := KeepBut.of_below hq g none
  clear hq
  replace DI := qa.mk di
  replace HB := qa.mk hb
  replace BKa := qa.mk (KeepBut.blk hk BKa.out NEa.out (by simp))
  replace BKb := qa.mk (KeepBut.blk hk BKb.out NEb.out (by simp))
  replace BKc := qa.mk (KeepBut.blk hk BKc.out NEc.out (by simp))
  replace BKp := qa.mk (KeepBut.blk hk BKp.out NEp.out (by simp))
  replace NAa := qa.mk (NAa.out.keep (KeepT.of hk))
  replace NAb := qa.mk (NAb.out.keep (KeepT.of hk))
  replace NAc := qa.mk (NAc.out.keep (KeepT.of hk))
  replace NAp := qa.mk (NAp.out.keep (KeepT.of hk))
  clear di hb hk
  refine hK.out _ _ ⟨((qf BKa.out 0).trans rfl), ((qf BKb.out 0).trans rfl), ((qf BKc.out 0).trans rfl), ((qf BKp.out 0).trans rfl)⟩ (fun hHeld => ?_)
  clear hK K
  refine xk (a' := ?_) ?_ ?_
  rotate_left
  ·show Act.put _ (some 41) _ = _
   simp only [Act.put, List.setIfInBounds_toArray, List.set_cons_zero, List.set_cons_succ, qt, qu]
   rfl
  refine one_ (i := 5) (N := (some 44)) #[true, true, true, true, true, true, false, false, false, false, false, false, false, false, false, false, false, false, false, false, false, false, false, false] rfl rfl (xn HT_.out (by kernel_rfl)) (by decide) (fun K hK => ?_)
  refine xx Tryd.func15 (by kernel_rfl) rfl #[.agg #[.slice Ap p.length cp], .agg #[.slice Aa a.length ca]] (by rfl) rfl rfl (by (try simp only [List.map_toArray, List.map_cons, List.map_nil]); first | done | rfl | (simp only [List.length_drop, List.length_take]; rfl)) ?_
  refine (matchT _ NAp.out NAa.out FIp.out FIa.out (show matchS p a = true from (matchS_comm p a).trans HM.out)).mono ?_
  rintro e_ W293 ⟨rfl, hq⟩
  refine ⟨_, rfl, ?_⟩
  have di := DI.out.below hq
  have hb := qk HB.out hq
  have hk := KeepBut.of_below hq g none
  clear hq
  replace DI := qa.mk di
  replace HB := qa.mk hb
  replace BKa := qa.mk (KeepBut.blk hk BKa.out NEa.out (by simp))
  replace BKb := qa.mk (KeepBut.blk hk BKb.out NEb.out (by simp))
  replace BKc := qa.mk (KeepBut.blk hk BKc.out NEc.out (by simp))
  replace BKp := qa.mk (KeepBut.blk hk BKp.out NEp.out (by simp))
  replace NAa := qa.mk (NAa.out.keep (KeepT.of hk))
  replace NAb := qa.mk (NAb.out.keep (KeepT.of hk))
  replace NAc := qa.mk (NAc.out.keep (KeepT.of hk))
  replace NAp := qa.mk (NAp.out.keep (KeepT.of hk))
  clear di hb hk
  refine hK.out _ _ ⟨((qf BKa.out 0).trans rfl), ((qf BKb.out 0).trans rfl), ((qf BKc.out 0).trans rfl), ((qf BKp.out 0).trans rfl)⟩ (fun hHeld => ?_)
  clear hK K
  refine xk (a' := ?_) ?_ ?_
  rotate_left
  ·show Act.put _ (some 44) _ = _
   simp only [Act.put, List.setIfInBounds_toArray, List.set_cons_zero, List.set_cons_succ, qt, qu]
   rfl
  refine zn (i := 6) (N := (some 45)) (v := ?_) (a' := ?_) #[true, true, true, true, true, true, true, false, false, false, false, false, false, false, false, false, false, false, false, false, false, false, false, false] rfl rfl (q9 HT_.out (by kernel_rfl)) (fun _ _ _ h => h) (Or.inl ⟨by rfl, ?_⟩) ?_ ?_
  rotate_left
  ·intro w'
   go_simp
   with_reducible rfl
  rotate_left
  ·simp only [Act.put, List.setIfInBounds_toArray, List.set_cons_zero, List.set_cons_succ, qt, qu]
   rfl
  refine zn (i := 7) (N := (some 46)) (v := ?_) (a' := ?_) #[true, true, true, true, true, true, true, true, false, false, false, false, false, false, false, false, false, false, false, false, false, false, false, false] rfl rfl (q9 HT_.out (by kernel_rfl)) (fun _ _ _ h => h) (Or.inl ⟨by rfl, ?_⟩) ?_ ?_
  rotate_left
  ·intro w'
   go_simp
   with_reducible rfl
  rotate_left
  ·simp only [Act.put, List.setIfInBounds_toArray, List.set_cons_zero, List.set_cons_succ, qt, qu]
   rfl
  refine xc (i := 8) (N := (some 47)) (v := ?_) (a' := ?_) #[true, true, true, true, true, true, true, true, true, false, false, false, false, false, false, false, false, false, false, false, false, false, false, false] rfl rfl (zc HT_.out HW_.out (by kernel_rfl)) (fun _ _ _ h => h) (Or.inl ⟨by rfl, ?_⟩) hHeld ?_ ?_
  rotate_left
  ·rintro w' ⟨s0, s1, s2, s3⟩
   go_simp
   with_reducible rfl
  rotate_left
  ·simp only [Act.put, List.setIfInBounds_toArray, List.set_cons_zero, List.set_cons_succ, qt, qu]
   rfl
  refine xc (i := 9) (N := (some 48)) (v := ?_) (a' := ?_) #[true, true, true, true, true, true, true, true, true, true, false, false, false, false, false, false, false, false, false, false, false, false, false, false] rfl rfl (zc HT_.out HW_.out (by kernel_rfl)) (fun _ _ _ h => h) (Or.inl ⟨by rfl, ?_⟩) hHeld ?_ ?_
  rotate_left
  ·rintro w' ⟨s0, s1, s2, s3⟩
   go_simp
   with_reducible rfl
  rotate_left
  ·simp only [Act.put, List.setIfInBounds_toArray, List.set_cons_zero, List.set_cons_succ, qt, qu]
   rfl
  refine one_ (i := 10) (N := (some 49)) #[true, true, true, true, true, true, true, true, true, true, true, false, false, false, false, false, false, false, false, false, false, false, false, false] rfl rfl (xn HT_.out (by kernel_rfl)) (by decide) (fun K hK => ?_)
  refine xx Tryd.func15 (by kernel_rfl) rfl #[.agg #[.slice Aa a.length ca], .agg #[.slice Ap p.length cp]] (by rfl) rfl rfl (by (try simp only [List.map_toArray, List.map_cons, List.map_nil]); first | done | rfl | (simp only [List.length_drop, List.length_take]; rfl)) ?_
  refine (matchT _ NAa.out NAp.out FIa.out FIp.out HM.out).mono ?_
  rintro e_ W294 ⟨rfl, hq⟩
  refine ⟨_, rfl, ?_⟩
  have di := DI.out.below hq
  have hb := qk HB.out hq
  have hk := KeepBut.of_below hq g none
  clear hq
  replace DI := qa.mk di
  replace HB := qa.mk hb
  replace BKa := qa.mk (KeepBut.blk hk BKa.out NEa.out (by simp))
  replace BKb := qa.mk (KeepBut.blk hk BKb.out NEb.out (by simp))
  replace BKc := qa.mk (KeepBut.blk hk BKc.out NEc.out (by simp))
  replace BKp := qa.mk (KeepBut.blk hk BKp.out NEp.out (by simp))
  replace NAa := qa.mk (NAa.out.keep (KeepT.of hk))
  replace NAb := qa.mk (NAb.out.keep (KeepT.of hk))
  replace NAc := qa.mk (NAc.out.keep (KeepT.of hk))
  replace NAp := qa.mk (NAp.out.keep (KeepT.of hk))
  clear di hb hk
  refine hK.out _ _ ⟨((qf BKa.out 0).trans rfl), ((qf BKb.out 0).trans rfl), ((qf BKc.out 0).trans rfl), ((qf BKp.out 0).trans rfl)⟩ (fun hHeld => ?_)
  clear hK K
  refine xk (a' := ?_) ?_ ?_
  rotate_left
  ·show Act.put _ (some 49) _ = _
   simp only [Act.put, List.setIfInBounds_toArray, List.set_cons_zero, List.set_cons_succ, qt, qu]
   rfl
  refine zn (i := 11) (N := (some 50)) (v := ?_) (a' := ?_) #[true, true, true, true, true, true, true, true, true, true, true, true, false, false, false, false, false, false, false, false, false, false, false, false] rfl rfl (q9 HT_.out (by kernel_rfl)) (fun _ _ _ h => h) (Or.inl ⟨by rfl, ?_⟩) ?_ ?_
  rotate_left
  ·intro w'
   go_simp
   with_reducible rfl
  rotate_left
  ·simp only [Act.put, List.setIfInBounds_toArray, List.set_cons_zero, List.set_cons_succ, qt, qu]
   rfl
  refine zn (i := 12) (N := (some 51)) (v := ?_) (a' := ?_) #[true, true, true, true, true, true, true, true, true, true, true, true, true, false, false, false, false, false, false, false, false, false, false, false] rfl rfl (q9 HT_.out (by kernel_rfl)) (fun _ _ _ h => h) (Or.inl ⟨by rfl, ?_⟩) ?_ ?_
  rotate_left
  ·intro w'
   go_simp
   with_reducible rfl
  rotate_left
  ·simp only [Act.put, List.setIfInBounds_toArray, List.set_cons_zero, List.set_cons_succ, qt, qu]
   rfl
  refine xc (i := 13) (N := (some 52)) (v := ?_) (a' := ?_) #[true, true, true, true, true, true, true, true, true, true, true, true, true, true, false, false, false, false, false, false, false, false, false, false] rfl rfl (zc HT_.out HW_.out (by kernel_rfl)) (fun _ _ _ h => h) (Or.inl ⟨by rfl, ?_⟩) hHeld ?_ ?_
  rotate_left
  ·rintro w' ⟨s0, s1, s2, s3⟩
   go_simp
   with_reducible rfl
  rotate_left
  ·simp only [Act.put, List.setIfInBounds_toArray, List.set_cons_zero, List.set_cons_succ, qt, qu]
   rfl
  refine xc (i := 14) (N := (some 53)) (v := ?_) (a' := ?_) #[true, true, true, true, true, true, true, true, true, true, true, true, true, true, true, false, false, false, false, false, false, false, false, false] rfl rfl (zc HT_.out HW_.out (by kernel_rfl)) (fun _ _ _ h => h) (Or.inl ⟨by rfl, ?_⟩) hHeld ?_ ?_
  rotate_left
  ·rintro w' ⟨s0, s1, s2, s3⟩
   go_simp
   with_reducible rfl
  rotate_left
  ·simp only [Act.put, List.setIfInBounds_toArray, List.set_cons_zero, List.set_cons_succ, qt, qu]
   rfl
  refine one_ (i := 15) (N := (some 54)) #[true, true, true, true, true, true, true, true, true, true, true, true, true, true, true, true, false, false, false, false, false, false, false, false] rfl rfl (xn HT_.out (by kernel_rfl)) (by decide) (fun K hK => ?_)
  refine xx Tryd.func17 (by kernel_rfl) rfl #[.agg #[.slice Aa a.length ca], .agg #[.slice Ap p.length cp]] (by rfl) rfl rfl (by (try simp only [List.map_toArray, List.map_cons, List.map_nil]); first | done | rfl | (simp only [List.length_drop, List.length_take]; rfl)) ?_
  refine (withinT _ NAa.out NAp.out FIa.out FIp.out ((km _ _).1 HM.out).2).mono ?_
  rintro e_ W295 ⟨rfl, hq⟩
  refine ⟨_, rfl, ?_⟩
  have di := DI.out.below hq
  have hb := qk HB.out hq
  have hk := KeepBut.of_below hq g none
  clear hq
  replace DI := qa.mk di
  replace HB := qa.mk hb
  replace BKa := qa.mk (KeepBut.blk hk BKa.out NEa.out (by simp))
  replace BKb := qa.mk (KeepBut.blk hk BKb.out NEb.out (by simp))
  replace BKc := qa.mk (KeepBut.blk hk BKc.out NEc.out (by simp))
  replace BKp := qa.mk (KeepBut.blk hk BKp.out NEp.out (by simp))
  replace NAa := qa.mk (NAa.out.keep (KeepT.of hk))
  replace NAb := qa.mk (NAb.out.keep (KeepT.of hk))
  replace NAc := qa.mk (NAc.out.keep (KeepT.of hk))
  replace NAp := qa.mk (NAp.out.keep (KeepT.of hk))
  clear di hb hk
  refine hK.out _ _ ⟨((qf BKa.out 0).trans rfl), ((qf BKb.out 0).trans rfl), ((qf BKc.out 0).trans rfl), ((qf BKp.out 0).trans rfl)⟩ (fun hHeld => ?_)
  clear hK K
  refine xk (a' := ?_) ?_ ?_
  rotate_left
  ·show Act.put _ (some 54) _ = _
   simp only [Act.put, List.setIfInBounds_toArray, List.set_cons_zero, List.set_cons_succ, qt, qu]
   rfl
  refine zn (i := 16) (N := (some 55)) (v := ?_) (a' := ?_) #[true, true, true, true, true, true, true, true, true, true, true, true, true, true, true, true, true, false, false, false, false, false, false, false] rfl rfl (q9 HT_.out (by kernel_rfl)) (fun _ _ _ h => h) (Or.inl ⟨by rfl, ?_⟩) ?_ ?_
  rotate_left
  ·intro w'
   go_simp
   with_reducible rfl
  rotate_left
  ·simp only [Act.put, List.setIfInBounds_toArray, List.set_cons_zero, List.set_cons_succ, qt, qu]
   rfl
  refine xc (i := 17) (N := (some 56)) (v := ?_) (a' := ?_) #[true, true, true, true, true, true, true, true, true, true, true, true, true, true, true, true, true, true, false, false, false, false, false, false] rfl rfl (zc HT_.out HW_.out (by kernel_rfl)) (fun _ _ _ h => h) (Or.inl ⟨by rfl, ?_⟩) hHeld ?_ ?_
  rotate_left
  ·rintro w' ⟨s0, s1, s2, s3⟩
   go_simp
   with_reducible rfl
  rotate_left
  ·simp only [Act.put, List.setIfInBounds_toArray, List.set_cons_zero, List.set_cons_succ, qt, qu]
   rfl
  refine xc (i := 18) (N := (some 57)) (v := ?_) (a' := ?_) #[true, true, true, true, true, true, true, true, true, true, true, true, true, true, true, true, true, true, true, false, false, false, false, false] rfl rfl (zc HT_.out HW_.out (by kernel_rfl)) (fun _ _ _ h => h) (Or.inl ⟨by rfl, ?_⟩) hHeld ?_ ?_
  rotate_left
  ·rintro w' ⟨s0, s1, s2, s3⟩
   go_simp
   with_reducible rfl
  rotate_left
  ·simp only [Act.put, List.setIfInBounds_toArray, List.set_cons_zero, List.set_cons_succ, qt, qu]
   rfl
  refine one_ (i := 19) (N := (some 58)) #[true, true, true, true, true, true, true, true, true, true, true, true, true, true, true, true, true, true, true, true, false, false, false, false] rfl rfl (xn HT_.out (by kernel_rfl)) (by decide) (fun K hK => ?_)
  refine xx Tryd.func17 (by kernel_rfl) rfl #[.agg #[.slice Ap p.length cp], .agg #[.slice Aa a.length ca]] (by rfl) rfl rfl (by (try simp only [List.map_toArray, List.map_cons, List.map_nil]); first | done | rfl | (simp only [List.length_drop, List.length_take]; rfl)) ?_
  refine (withinT _ NAp.out NAa.out FIp.out FIa.out (withinS_symm ((km _ _).1 HM.out).1 ((km _ _).1 HM.out).2)).mono ?_
  rintro e_ W296 ⟨rfl, hq⟩
  refine ⟨_, rfl, ?_⟩
  have di := DI.out.below hq
  have hb := qk HB.out hq
  have hk := KeepBut.of_below hq g none
  clear hq
  replace DI := qa.mk di
  replace HB := qa.mk hb
  replace BKa := qa.mk (KeepBut.blk hk BKa.out NEa.out (by simp))
  replace BKb := qa.mk (KeepBut.blk hk BKb.out NEb.out (by simp))
  replace BKc := qa.mk (KeepBut.blk hk BKc.out NEc.out (by simp))
  replace BKp := qa.mk (KeepBut.blk hk BKp.out NEp.out (by simp))
  replace NAa := qa.mk (NAa.out.keep (KeepT.of hk))
  replace NAb := qa.mk (NAb.out.keep (KeepT.of hk))
  replace NAc := qa.mk (NAc.out.keep (KeepT.of hk))
  replace NAp := qa.mk (NAp.out.keep (KeepT.of hk))
  clear di hb hk
  refine hK.out _ _ ⟨((qf BKa.out 0).trans rfl), ((qf BKb.out 0).trans rfl), ((qf BKc.out 0).trans rfl), ((qf BKp.out 0).trans rfl)⟩ (fun hHeld => ?_)
  clear hK K
  refine xk (a' := ?_) ?_ ?_
  rotate_left
  ·show Act.put _ (some 58) _ = _
   simp only [Act.put, List.setIfInBounds_toArray, List.set_cons_zero, List.set_cons_succ, qt, qu]
   rfl
  refine zn (i := 20) (N := (some 59)) (v := ?_) (a' := ?_) #[true, true, true, true, true, true, true, true, true, true, true, true, true, true, true, true, true, true, true, true, true, false, false, false] rfl rfl (q9 HT_.out (by kernel_rfl)) (fun _ _ _ h => h) (Or.inl ⟨by rfl, ?_⟩) ?_ ?_
  rotate_left
  ·intro w'
   go_simp
   with_reducible rfl
  rotate_left
  ·simp only [Act.put, List.setIfInBounds_toArray, List.set_cons_zero, List.set_cons_succ, qt, qu]
   rfl
  refine zn (i := 21) (N := (some 60)) (v := ?_) (a' := ?_) #[true, true, true, true, true, true, true, true, true, true, true, true, true, true, true, true, true, true, true, true, true, true, false, false] rfl rfl (q9 HT_.out (by kernel_rfl)) (fun _ _ _ h => h) (Or.inl ⟨by rfl, ?_⟩) ?_ ?_
  rotate_left
  ·intro w'
   go_simp
   with_reducible rfl
  rotate_left
  ·simp only [Act.put, List.setIfInBounds_toArray, List.set_cons_zero, List.set_cons_succ, qt, qu]
   rfl
  refine zn (i := 22) (N := (some 61)) (v := ?_) (a' := ?_) #[true, true, true, true, true, true, true, true, true, true, true, true, true, true, true, true, true, true, true, true, true, true, true, false] rfl rfl (q9 HT_.out (by kernel_rfl)) (fun _ _ _ h => h) (Or.inl ⟨by rfl, ?_⟩) ?_ ?_
  rotate_left
  ·intro w'
   go_simp
   with_reducible rfl
  rotate_left
  ·simp only [Act.put, List.setIfInBounds_toArray, List.set_cons_zero, List.set_cons_succ, qt, qu]
   rfl
  refine zn (i := 23) (N := (some 8)) (v := ?_) (a' := ?_) #[true, true, true, true, true, true, true, true, true, true, true, true, true, true, true, true, true, true, true, true, true, true, true, true] rfl rfl (q9 HT_.out (by kernel_rfl)) (fun _ _ _ h => h) (Or.inl ⟨by rfl, ?_⟩) ?_ ?_
  rotate_left
  ·intro w'
   go_simp
   with_reducible rfl
  rotate_left
  ·simp only [Act.put, List.setIfInBounds_toArray, List.set_cons_zero, List.set_cons_succ, qt, qu]
   rfl
  refine done_ (done_of HT_.out (by kernel_rfl)) ?_
  go_upto_region 7 with (fail)
  have hb0 : Below (W296).heap.size W296 _ := (show Below W296.heap.size W296 W296.drew from kk (Below.refl _ _))
  have di := DI.out.below hb0
  have hb := qk HB.out hb0
  have hk := KeepBut.of_below hb0 g none
  clear hb0
  replace DI := qa.mk di
  replace HB := qa.mk hb
  replace BKa := qa.mk (KeepBut.blk hk BKa.out NEa.out (by simp))
  replace BKb := qa.mk (KeepBut.blk hk BKb.out NEb.out (by simp))
  replace BKc := qa.mk (KeepBut.blk hk BKc.out NEc.out (by simp))
  replace BKp := qa.mk (KeepBut.blk hk BKp.out NEp.out (by simp))
  replace NAa := qa.mk (NAa.out.keep (KeepT.of hk))
  replace NAb := qa.mk (NAb.out.keep (KeepT.of hk))
  replace NAc := qa.mk (NAc.out.keep (KeepT.of hk))
  replace NAp := qa.mk (NAp.out.keep (KeepT.of hk))
  clear di hb hk
  refine start_ (n := 39) (S := fun w' => w'.cell? ⟨ga, 0, none⟩ = some (.slice Aa a.length ca) ∧ w'.cell? ⟨gb, 0, none⟩ = some (.slice Ab b.length cb) ∧ w'.cell? ⟨gc, 0, none⟩ = some (.slice Ac c.length cc) ∧ w'.cell? ⟨gp, 0, none⟩ = some (.slice Ap p.length cp)) (ds := []) #[false, false, false, false, false, false, false, false, false, false, false, false, false, false, false, false, false, false, false, false, false, false, false, false, false, false, false, false, false, false, false, false, false, false, false, false, false, false, false] (by kernel_rfl) rfl rfl ⟨((qf BKa.out 0).trans rfl), ((qf BKb.out 0).trans rfl), ((qf BKc.out 0).trans rfl), ((qf BKp.out 0).trans rfl)⟩ (fun hHeld => ?_); refine with_tabW order.tab7 order.bits7 (fun HT_ HW_ => ?_)
  generalize W296.drew = W297 at DI HB BKa BKb BKc BKp NAa NAb NAc NAp hHeld ⊢
  refine one_ (i := 0) (N := (some 62)) #[true, false, false, false, false, false, false, false, false, false, false, false, false, false, false, false, false, false, false, false, false, false, false, false, false, false, false, false, false, false, false, false, false, false, false, false, false, false, false] rfl rfl (xn HT_.out (by kernel_rfl)) (by decide) (fun K hK => ?_)
  refine xx Tryd.func9 (by kernel_rfl) rfl #[] (by rfl) rfl rfl (by (try simp only [List.map_toArray, List.map_cons, List.map_nil]); first | done | rfl | (simp only [List.length_drop, List.length_take]; rfl)) ?_
  refine (awakeT _ (LibHeld.below HG.out HB.out)).mono ?_
  rintro e_ W298 ⟨rfl, hq⟩
  refine ⟨_, rfl, ?_⟩
  have di := DI.out.below hq
  have hb := qk HB.out hq
  have hk := KeepBut.of_below hq g none
  clear hq
  replace DI := qa.mk di
  replace HB := qa.mk hb
  replace BKa := qa.mk (KeepBut.blk hk BKa.out NEa.out (by simp))
  replace BKb := qa.mk (KeepBut.blk hk BKb.out NEb.out (by simp))
  replace BKc := qa.mk (KeepBut.blk hk BKc.out NEc.out (by simp))
  replace BKp := qa.mk (KeepBut.blk hk BKp.out NEp.out (by simp))
  replace NAa := qa.mk (NAa.out.keep (KeepT.of hk))
  replace NAb := qa.mk (NAb.out.keep (KeepT.of hk))
  replace NAc := qa.mk (NAc.out.keep (KeepT.of hk))
  replace NAp := qa.mk (NAp.out.keep (KeepT.of hk))
  clear di hb hk
  refine hK.out _ _ ⟨((qf BKa.out 0).trans rfl), ((qf BKb.out 0).trans rfl), ((qf BKc.out 0).trans rfl), ((qf BKp.out 0).trans rfl)⟩ (fun hHeld => ?_)
  clear hK K
  refine xk (a' := ?_) ?_ ?_
  rotate_left
  ·show Act.put _ (some 62) _ = _
   simp only [Act.put, List.setIfInBounds_toArray, List.set_cons_zero, List.set_cons_succ, qt, qu]
   rfl
  refine zn (i := 1) (N := (some 63)) (v := ?_) (a' := ?_) #[true, true, false, false, false, false, false, false, false, false, false, false, false, false, false, false, false, false, false, false, false, false, false, false, false, false, false, false, false, false, false, false, false, false, false, false, false, false, false] rfl rfl (q9 HT_.out (by kernel_rfl)) (fun _ _ _ h => h) (Or.inl ⟨by rfl, ?_⟩) ?_ ?_
  rotate_left
  ·intro w'
   go_simp
   with_reducible rfl
  rotate_left
  ·simp only [Act.put, List.setIfInBounds_toArray, List.set_cons_zero, List.set_cons_succ, qt, qu]
   rfl
  refine xc (i := 2) (N := (some 64)) (v := ?_) (a' := ?_) #[true, true, true, false, false, false, false, false, false, false, false, false, false, false, false, false, false, false, false, false, false, false, false, false, false, false, false, false, false, false, false, false, false, false, false, false, false, false, false] rfl rfl (zc HT_.out HW_.out (by kernel_rfl)) (fun _ _ _ h => h) (Or.inl ⟨by rfl, ?_⟩) hHeld ?_ ?_
  rotate_left
  ·rintro w' ⟨s0, s1, s2, s3⟩
   go_simp
   with_reducible rfl
  rotate_left
  ·simp only [Act.put, List.setIfInBounds_toArray, List.set_cons_zero, List.set_cons_succ, qt, qu]
   rfl
  refine xc (i := 3) (N := (some 65)) (v := ?_) (a' := ?_) #[true, true, true, true, false, false, false, false, false, false, false, false, false, false, false, false, false, false, false, false, false, false, false, false, false, false, false, false, false, false, false, false, false, false, false, false, false, false, false] rfl rfl (zc HT_.out HW_.out (by kernel_rfl)) (fun _ _ _ h => h) (Or.inl ⟨by rfl, ?_⟩) hHeld ?_ ?_
  rotate_left
  ·rintro w' ⟨s0, s1, s2, s3⟩
   go_simp
   with_reducible rfl
  rotate_left
  ·simp only [Act.put, List.setIfInBounds_toArray, List.set_cons_zero, List.set_cons_succ, qt, qu]
   rfl
  refine one_ (i := 4) (N := (some 66)) #[true, true, true, true, true, false, false, false, false, false, false, false, false, false, false, false, false, false, false, false, false, false, false, false, false, false, false, false, false, false, false, false, false, false, false, false, false, false, false] rfl rfl (xn HT_.out (by kernel_rfl)) (by decide) (fun K hK => ?_)
  refine xx Tryd.func15 (by kernel_rfl) rfl #[.agg #[.slice Aa a.length ca], .agg #[.slice Aa a.length ca]] (by rfl) rfl rfl (by (try simp only [List.map_toArray, List.map_cons, List.map_nil]); first | done | rfl | (simp only [List.length_drop, List.length_take]; rfl)) ?_
  refine (matchT _ NAa.out NAa.out FIa.out FIa.out (matchS_refl a)).mono ?_
  rintro e_ W299 ⟨rfl, hq⟩
  refine ⟨_, rfl, ?_⟩
  have di := DI.out.below hq
  have hb := qk HB.out hq
  have hk := KeepBut.of_below hq g none
  clear hq
  replace DI := qa.mk di
  replace HB := qa.mk hb
  replace BKa := qa.mk (KeepBut.blk hk BKa.out NEa.out (by simp))
  replace BKb := qa.mk (KeepBut.blk hk BKb.out NEb.out (by simp))
  replace BKc := qa.mk (KeepBut.blk hk BKc.out NEc.out (by simp))
  replace BKp := qa.mk (KeepBut.blk hk BKp.out NEp.out (by simp))
  replace NAa := qa.mk (NAa.out.keep (KeepT.of hk))
  replace NAb := qa.mk (NAb.out.keep (KeepT.of hk))
  replace NAc := qa.mk (NAc.out.keep (KeepT.of hk))
  replace NAp := qa.mk (NAp.out.keep (KeepT.of hk))
  clear di hb hk
  refine hK.out _ _ ⟨((qf BKa.out 0).trans rfl), ((qf BKb.out 0).trans rfl), ((qf BKc.out 0).trans rfl), ((qf BKp.out 0).trans rfl)⟩ (fun hHeld => ?_)
  clear hK K
  refine xk (a' := ?_) ?_ ?_
  rotate_left
  ·show Act.put _ (some 66) _ = _
   simp only [Act.put, List.setIfInBounds_toArray, List.set_cons_zero, List.set_cons_succ, qt, qu]
   rfl
  refine zn (i := 5) (N := (some 67)) (v := ?_) (a' := ?_) #[true, true, true, true, true, true, false, false, false, false, false, false, false, false, false, false, false, false, false, false, false, false, false, false, false, false, false, false, false, false, false, false, false, false, false, false, false, false, false] rfl rfl (q9 HT_.out (by kernel_rfl)) (fun _ _ _ h => h) (Or.inl ⟨by rfl, ?_⟩) ?_ ?_
  rotate_left
  ·intro w'
   go_simp
   with_reducible rfl
  rotate_left
  ·simp only [Act.put, List.setIfInBounds_toArray, List.set_cons_zero, List.set_cons_succ, qt, qu]
   rfl
  refine zn (i := 6) (N := (some 68)) (v := ?_) (a' := ?_) #[true, true, true, true, true, true, true, false, false, false, false, false, false, false, false, false, false, false, false, false, false, false, false, false, false, false, false, false, false, false, false, false, false, false, false, false, false, false, false] rfl rfl (q9 HT_.out (by kernel_rfl)) (fun _ _ _ h => h) (Or.inl ⟨by rfl, ?_⟩) ?_ ?_
  rotate_left
  ·intro w'
   go_simp
   with_reducible rfl
  rotate_left
  ·simp only [Act.put, List.setIfInBounds_toArray, List.set_cons_zero, List.set_cons_succ, qt, qu]
   rfl
  refine xc (i := 7) (N := (some 69)) (v := ?_) (a' := ?_) #[true, true, true, true, true, true, true, true, false, false, false, false, false, false, false, false, false, false, false, false, false, false, false, false, false, false, false, false, false, false, false, false, false, false, false, false, false, false, false] rfl rfl (zc HT_.out HW_.out (by kernel_rfl)) (fun _ _ _ h => h) (Or.inl ⟨by rfl, ?_⟩) hHeld ?_ ?_
  rotate_left
  ·rintro w' ⟨s0, s1, s2, s3⟩
   go_simp
   with_reducible rfl
  rotate_left
  ·simp only [Act.put, List.setIfInBounds_toArray, List.set_cons_zero, List.set_cons_succ, qt, qu]
   rfl
  refine xc (i := 8) (N := (some 70)) (v := ?_) (a' := ?_) #[true, true, true, true, true, true, true, true, true, false, false, false, false, false, false, false, false, false, false, false, false, false, false, false, false, false, false, false, false, false, false, false, false, false, false, false, false, false, false] rfl rfl (zc HT_.out HW_.out (by kernel_rfl)) (fun _ _ _ h => h) (Or.inl ⟨by rfl, ?_⟩) hHeld ?_ ?_
  rotate_left
  ·rintro w' ⟨s0, s1, s2, s3⟩
   go_simp
   with_reducible rfl
  rotate_left
  ·simp only [Act.put, List.setIfInBounds_toArray, List.set_cons_zero, List.set_cons_succ, qt, qu]
   rfl
  refine one_ (i := 9) (N := (some 71)) #[true, true, true, true, true, true, true, true, true, true, false, false, false, false, false, false, false, false, false, false, false, false, false, false, false, false, false, false, false, false, false, false, false, false, false, false, false, false, false] rfl rfl (xn HT_.out (by kernel_rfl)) (by decide) (fun K hK => ?_)
  refine xx Tryd.func17 (by kernel_rfl) rfl #[.agg #[.slice Aa a.length ca], .agg #[.slice Ab b.length cb]] (by rfl) rfl rfl (by (try simp only [List.map_toArray, List.map_cons, List.map_nil]); first | done | rfl | (simp only [List.length_drop, List.length_take]; rfl)) ?_
  refine (withinT _ NAa.out NAb.out FIa.out FIb.out HAB.out).mono ?_
  rintro e_ W300 ⟨rfl, hq⟩
  refine ⟨_, rfl, ?_⟩
  have di := DI.out.below hq
  have hb := qk HB.out hq
  have hk := KeepBut.of_below hq g none
  clear hq
  replace DI := qa.mk di
  replace HB := qa.mk hb
  replace BKa := qa.mk (KeepBut.blk hk BKa.out NEa.out (by simp))
  replace BKb := qa.mk (KeepBut.blk hk BKb.out NEb.out (by simp))
  replace BKc := qa.mk (KeepBut.blk hk BKc.out NEc.out (by simp))
  replace BKp := qa.mk (KeepBut.blk hk BKp.out NEp.out (by simp))
  replace NAa := qa.mk (NAa.out.keep (KeepT.of hk))
  replace NAb := qa.mk (NAb.out.keep (KeepT.of hk))
  replace NAc := qa.mk (NAc.out.keep (KeepT.of hk))
  replace NAp := qa.mk (NAp.out.keep (KeepT.of hk))
  clear di hb hk
  refine hK.out _ _ ⟨((qf BKa.out 0).trans rfl), ((qf BKb.out 0).trans rfl), ((qf BKc.out 0).trans rfl), ((qf BKp.out 0).trans rfl)⟩ (fun hHeld => ?_)
  clear hK K
  refine xk (a' := ?_) ?_ ?_
  rotate_left
  ·show Act.put _ (some 71) _ = _
   simp only [Act.put, List.setIfInBounds_toArray, List.set_cons_zero, List.set_cons_succ, qt, qu]
   rfl
  refine zn (i := 10) (N := (some 72)) (v := ?_) (a' := ?_) #[true, true, true, true, true, true, true, true, true, true, true, false, false, false, false, false, false, false, false, false, false, false, false, false, false, false, false, false, false, false, false, false, false, false, false, false, false, false, false] rfl rfl (q9 HT_.out (by kernel_rfl)) (fun _ _ _ h => h) (Or.inl ⟨by rfl, ?_⟩) ?_ ?_
  rotate_left
  ·intro w'
   go_simp
   with_reducible rfl
  rotate_left
  ·simp only [Act.put, List.setIfInBounds_toArray, List.set_cons_zero, List.set_cons_succ, qt, qu]
   rfl
  refine zn (i := 11) (N := (some 73)) (v := ?_) (a' := ?_) #[true, true, true, true, true, true, true, true, true, true, true, true, false, false, false, false, false, false, false, false, false, false, false, false, false, false, false, false, false, false, false, false, false, false, false, false, false, false, false] rfl rfl (q9 HT_.out (by kernel_rfl)) (fun _ _ _ h => h) (Or.inl ⟨by rfl, ?_⟩) ?_ ?_
  rotate_left
  ·intro w'
   go_simp
   with_reducible rfl
  rotate_left
  ·simp only [Act.put, List.setIfInBounds_toArray, List.set_cons_zero, List.set_cons_succ, qt, qu]
   rfl
  refine xc (i := 12) (N := (some 74)) (v := ?_) (a' := ?_) #[true, true, true, true, true, true, true, true, true, true, true, true, true, false, false, false, false, false, false, false, false, false, false, false, false, false, false, false, false, false, false, false, false, false, false, false, false, false, false] rfl rfl (zc HT_.out HW_.out (by kernel_rfl)) (fun _ _ _ h => h) (Or.inl ⟨by rfl, ?_⟩) hHeld ?_ ?_
  rotate_left
  ·rintro w' ⟨s0, s1, s2, s3⟩
   go_simp
   with_reducible rfl
  rotate_left
  ·simp only [Act.put, List.setIfInBounds_toArray, List.set_cons_zero, List.set_cons_succ, qt, qu]
   rfl
  refine xc (i := 13) (N := (some 75)) (v := ?_) (a' := ?_) #[true, true, true, true, true, true, true, true, true, true, true, true, true, true, false, false, false, false, false, false, false, false, false, false, false, false, false, false, false, false, false, false, false, false, false, false, false, false, false] rfl rfl (zc HT_.out HW_.out (by kernel_rfl)) (fun _ _ _ h => h) (Or.inl ⟨by rfl, ?_⟩) hHeld ?_ ?_
  rotate_left
  ·rintro w' ⟨s0, s1, s2, s3⟩
   go_simp
   with_reducible rfl
  rotate_left
  ·simp only [Act.put, List.setIfInBounds_toArray, List.set_cons_zero, List.set_cons_succ, qt, qu]
   rfl
  refine one_ (i := 14) (N := (some 76)) #[true, true, true, true, true, true, true, true, true, true, true, true, true, true, true, false, false, false, false, false, false, false, false, false, false, false, false, false, false, false, false, false, false, false, false, false, false, false, false] rfl rfl (xn HT_.out (by kernel_rfl)) (by decide) (fun K hK => ?_)
  refine xx Tryd.func17 (by kernel_rfl) rfl #[.agg #[.slice Ab b.length cb], .agg #[.slice Ac c.length cc]] (by rfl) rfl rfl (by (try simp only [List.map_toArray, List.map_cons, List.map_nil]); first | done | rfl | (simp only [List.length_drop, List.length_take]; rfl)) ?_
  refine (withinT _ NAb.out NAc.out FIb.out FIc.out HBC.out).mono ?_
  rintro e_ W301 ⟨rfl, hq⟩
  refine ⟨_, rfl, ?_⟩
  have di := DI.out.below hq
  have hb := qk HB.out hq
  have hk := KeepBut.of_below hq g none
  clear hq
  replace DI := qa.mk di
  replace HB := qa.mk hb
  replace BKa := qa.mk (KeepBut.blk hk BKa.out NEa.out (by simp))
  replace BKb := qa.mk (KeepBut.blk hk BKb.out NEb.out (by simp))
  replace BKc := qa.mk (KeepBut.blk hk BKc.out NEc.out (by simp))
  replace BKp := qa.mk (KeepBut.blk hk BKp.out NEp.out (by simp))
  replace NAa := qa.mk (NAa.out.keep (KeepT.of hk))
  replace NAb := qa.mk (NAb.out.keep (KeepT.of hk))
  replace NAc := qa.mk (NAc.out.keep (KeepT.of hk))
  replace NAp := qa.mk (NAp.out.keep (KeepT.of hk))
  clear di hb hk
  refine hK.out _ _ ⟨((qf BKa.out 0).trans rfl), ((qf BKb.out 0).trans rfl), ((qf BKc.out 0).trans rfl), ((qf BKp.out 0).trans rfl)⟩ (fun hHeld => ?_)
  clear hK K
  refine xk (a' := ?_) ?_ ?_
  rotate_left
  ·show Act.put _ (some 76) _ = _
   simp only [Act.put, List.setIfInBounds_toArray, List.set_cons_zero, List.set_cons_succ, qt, qu]
   rfl
  refine zn (i := 15) (N := (some 77)) (v := ?_) (a' := ?_) #[true, true, true, true, true, true, true, true, true, true, true, true, true, true, true, true, false, false, false, false, false, false, false, false, false, false, false, false, false, false, false, false, false, false, false, false, false, false, false] rfl rfl (q9 HT_.out (by kernel_rfl)) (fun _ _ _ h => h) (Or.inl ⟨by rfl, ?_⟩) ?_ ?_
  rotate_left
  ·intro w'
   go_simp
   with_reducible rfl
  rotate_left
  ·simp only [Act.put, List.setIfInBounds_toArray, List.set_cons_zero, List.set_cons_succ, qt, qu]
   rfl
  refine zn (i := 16) (N := (some 78)) (v := ?_) (a' := ?_) #[true, true, true, true, true, true, true, true, true, true, true, true, true, true, true, true, true, false, false, false, false, false, false, false, false, false, false, false, false, false, false, false, false, false, false, false, false, false, false] rfl rfl (q9 HT_.out (by kernel_rfl)) (fun _ _ _ h => h) (Or.inl ⟨by rfl, ?_⟩) ?_ ?_
  rotate_left
  ·intro w'
   go_simp
   with_reducible rfl
  rotate_left
  ·simp only [Act.put, List.setIfInBounds_toArray, List.set_cons_zero, List.set_cons_succ, qt, qu]
   rfl
  refine xc (i := 17) (N := (some 79)) (v := ?_) (a' := ?_) #[true, true, true, true, true, true, true, true, true, true, true, true, true, true, true, true, true, true, false, false, false, false, false, false, false, false, false, false, false, false, false, false, false, false, false, false, false, false, false] rfl rfl (zc HT_.out HW_.out (by kernel_rfl)) (fun _ _ _ h => h) (Or.inl ⟨by rfl, ?_⟩) hHeld ?_ ?_
  rotate_left
  ·rintro w' ⟨s0, s1, s2, s3⟩
   go_simp
   with_reducible rfl
  rotate_left
  ·simp only [Act.put, List.setIfInBounds_toArray, List.set_cons_zero, List.set_cons_succ, qt, qu]
   rfl
  refine xc (i := 18) (N := (some 80)) (v := ?_) (a' := ?_) #[true, true, true, true, true, true, true, true, true, true, true, true, true, true, true, true, true, true, true, false, false, false, false, false, false, false, false, false, false, false, false, false, false, false, false, false, false, false, false] rfl rfl (zc HT_.out HW_.out (by kernel_rfl)) (fun _ _ _ h => h) (Or.inl ⟨by rfl, ?_⟩) hHeld ?_ ?_
  rotate_left
  ·rintro w' ⟨s0, s1, s2, s3⟩
   go_simp
   with_reducible rfl
  rotate_left
  ·simp only [Act.put, List.setIfInBounds_toArray, List.set_cons_zero, List.set_cons_succ, qt, qu]
   rfl
  refine one_ (i := 19) (N := (some 81)) #[true, true, true, true, true, true, true, true, true, true, true, true, true, true, true, true, true, true, true, true, false, false, false, false, false, false, false, false, false, false, false, false, false, false, false, false, false, false, false] rfl rfl (xn HT_.out (by kernel_rfl)) (by decide) (fun K hK => ?_)
  refine xx Tryd.func17 (by kernel_rfl) rfl #[.agg #[.slice Aa a.length ca], .agg #[.slice Ac c.length cc]] (by rfl) rfl rfl (by (try simp only [List.map_toArray, List.map_cons, List.map_nil]); first | done | rfl | (simp only [List.length_drop, List.length_take]; rfl)) ?_
  refine (withinT _ NAa.out NAc.out FIa.out FIc.out HAC.out).mono ?_
  rintro e_ W302 ⟨rfl, hq⟩
  refine ⟨_, rfl, ?_⟩
  have di := DI.out.below hq
  have hb := qk HB.out hq
  have hk := KeepBut.of_below hq g none
  clear hq
  replace DI := qa.mk di
  replace HB := qa.mk hb
  replace BKa := qa.mk (KeepBut.blk hk BKa.out NEa.out (by simp))
  replace BKb := qa.mk (KeepBut.blk hk BKb.out NEb.out (by simp))
  replace BKc := qa.mk (KeepBut.blk hk BKc.out NEc.out (by simp))
  replace BKp := qa.mk (KeepBut.blk hk BKp.out NEp.out (by simp))
  replace NAa := qa.mk (NAa.out.keep (KeepT.of hk))
  replace NAb := qa.mk (NAb.out.keep (KeepT.of hk))
  replace NAc := qa.mk (NAc.out.keep (KeepT.of hk))
  replace NAp := qa.mk (NAp.out.keep (KeepT.of hk))
  clear di hb hk
  refine hK.out _ _ ⟨((qf BKa.out 0).trans rfl), ((qf BKb.out 0).trans rfl), ((qf BKc.out 0).trans rfl), ((qf BKp.out 0).trans rfl)⟩ (fun hHeld => ?_)
  clear hK K
  refine xk (a' := ?_) ?_ ?_
  rotate_left
  ·show Act.put _ (some 81) _ = _
   simp only [Act.put, List.setIfInBounds_toArray, List.set_cons_zero, List.set_cons_succ, qt, qu]
   rfl
  refine zn (i := 20) (N := (some 82)) (v := ?_) (a' := ?_) #[true, true, true, true, true, true, true, true, true, true, true, true, true, true, true, true, true, true, true, true, true, false, false, false, false, false, false, false, false, false, false, false, false, false, false, false, false, false, false] rfl rfl (q9 HT_.out (by kernel_rfl)) (fun _ _ _ h => h) (Or.inl ⟨by rfl, ?_⟩) ?_ ?_
  rotate_left
  ·intro w'
   go_simp
   with_reducible rfl
  rotate_left
  ·simp only [Act.put, List.setIfInBounds_toArray, List.set_cons_zero, List.set_cons_succ, qt, qu]
   rfl
  refine zn (i := 21) (N := (some 83)) (v := ?_) (a' := ?_) #[true, true, true, true, true, true, true, true, true, true, true, true, true, true, true, true, true, true, true, true, true, true, false, false, false, false, false, false, false, false, false, false, false, false, false, false, false, false, false] rfl rfl (q9 HT_.out (by kernel_rfl)) (fun _ _ _ h => h) (Or.inl ⟨by rfl, ?_⟩) ?_ ?_
  rotate_left
  ·intro w'
   go_simp
   with_reducible rfl
  rotate_left
  ·simp only [Act.put, List.setIfInBounds_toArray, List.set_cons_zero, List.set_cons_succ, qt, qu]
   rfl
  refine zn (i := 22) (N := (some 84)) (v := ?_) (a' := ?_) #[true, true, true, true, true, true, true, true, true, true, true, true, true, true, true, true, true, true, true, true, true, true, true, false, false, false, false, false, false, false, false, false, false, false, false, false, false, false, false] rfl rfl (q9 HT_.out (by kernel_rfl)) (fun _ _ _ h => h) (Or.inl ⟨by rfl, ?_⟩) ?_ ?_
  rotate_left
  ·intro w'
   go_simp
   with_reducible rfl
  rotate_left
  ·simp only [Act.put, List.setIfInBounds_toArray, List.set_cons_zero, List.set_cons_succ, qt, qu]
   rfl
  refine zn (i := 23) (N := (some 85)) (v := ?_) (a' := ?_) #[true, true, true, true, true, true, true, true, true, true, true, true, true, true, true, true, true, true, true, true, true, true, true, true, false, false, false, false, false, false, false, false, false, false, false, false, false, false, false] rfl rfl (q9 HT_.out (by kernel_rfl)) (fun _ _ _ h => h) (Or.inl ⟨by rfl, ?_⟩) ?_ ?_
  rotate_left
  ·intro w'
   go_simp
   with_reducible rfl
  rotate_left
  ·simp only [Act.put, List.setIfInBounds_toArray, List.set_cons_zero, List.set_cons_succ, qt, qu]
   rfl
  refine zn (i := 24) (N := (some 86)) (v := ?_) (a' := ?_) #[true, true, true, true, true, true, true, true, true, true, true, true, true, true, true, true, true, true, true, true, true, true, true, true, true, false, false, false, false, false, false, false, false, false, false, false, false, false, false] rfl rfl (q9 HT_.out (by kernel_rfl)) (fun _ _ _ h => h) (Or.inl ⟨by rfl, ?_⟩) ?_ ?_
  rotate_left
  ·intro w'
   go_simp
   with_reducible rfl
  rotate_left
  ·simp only [Act.put, List.setIfInBounds_toArray, List.set_cons_zero, List.set_cons_succ, qt, qu]
   rfl
  refine xc (i := 25) (N := (some 87)) (v := ?_) (a' := ?_) #[true, true, true, true, true, true, true, true, true, true, true, true, true, true, true, true, true, true, true, true, true, true, true, true, true, true, false, false, false, false, false, false, false, false, false, false, false, false, false] rfl rfl (zc HT_.out HW_.out (by kernel_rfl)) (fun _ _ _ h => h) (Or.inl ⟨by rfl, ?_⟩) hHeld ?_ ?_
  rotate_left
  ·rintro w' ⟨s0, s1, s2, s3⟩
   go_simp
   with_reducible rfl
  rotate_left
  ·simp only [Act.put, List.setIfInBounds_toArray, List.set_cons_zero, List.set_cons_succ, qt, qu]
   rfl
  refine xc (i := 26) (N := (some 88)) (v := ?_) (a' := ?_) #[true, true, true, true, true, true, true, true, true, true, true, true, true, true, true, true, true, true, true, true, true, true, true, true, true, true, true, false, false, false, false, false, false, false, false, false, false, false, false] rfl rfl (zc HT_.out HW_.out (by kernel_rfl)) (fun _ _ _ h => h) (Or.inl ⟨by rfl, ?_⟩) hHeld ?_ ?_
  rotate_left
  ·rintro w' ⟨s0, s1, s2, s3⟩
   go_simp
   with_reducible rfl
  rotate_left
  ·simp only [Act.put, List.setIfInBounds_toArray, List.set_cons_zero, List.set_cons_succ, qt, qu]
   rfl
  refine xc (i := 28) (N := (some 90)) (v := ?_) (a' := ?_) #[true, true, true, true, true, true, true, true, true, true, true, true, true, true, true, true, true, true, true, true, true, true, true, true, true, true, true, false, true, false, false, false, false, false, false, false, false, false, false] rfl rfl (zc HT_.out HW_.out (by kernel_rfl)) (fun _ _ _ h => h) (Or.inl ⟨by rfl, ?_⟩) hHeld ?_ ?_
  rotate_left
  ·rintro w' ⟨s0, s1, s2, s3⟩
   go_simp
   with_reducible rfl
  rotate_left
  ·simp only [Act.put, List.setIfInBounds_toArray, List.set_cons_zero, List.set_cons_succ, qt, qu]
   rfl
  refine xc (i := 29) (N := (some 91)) (v := ?_) (a' := ?_) #[true, true, true, true, true, true, true, true, true, true, true, true, true, true, true, true, true, true, true, true, true, true, true, true, true, true, true, false, true, true, false, false, false, false, false, false, false, false, false] rfl rfl (zc HT_.out HW_.out (by kernel_rfl)) (fun _ _ _ h => h) (Or.inl ⟨by rfl, ?_⟩) hHeld ?_ ?_
  rotate_left
  ·rintro w' ⟨s0, s1, s2, s3⟩
   go_simp
   with_reducible rfl
  rotate_left
  ·simp only [Act.put, List.setIfInBounds_toArray, List.set_cons_zero, List.set_cons_succ, qt, qu]
   rfl
  refine one_ (i := 27) (N := (some 89)) #[true, true, true, true, true, true, true, true, true, true, true, true, true, true, true, true, true, true, true, true, true, true, true, true, true, true, true, true, true, true, false, false, false, false, false, false, false, false, false] rfl rfl (xn HT_.out (by kernel_rfl)) (by decide) (fun K hK => ?_)
  refine xx Tryd.func15 (by kernel_rfl) rfl #[.agg #[.slice Aa a.length ca], .agg #[.slice Ab b.length cb]] (by rfl) rfl rfl (by (try simp only [List.map_toArray, List.map_cons, List.map_nil]); first | done | rfl | (simp only [List.length_drop, List.length_take]; rfl)) ?_
  refine (matchT _ NAa.out NAb.out FIa.out FIb.out HMB.out).mono ?_
  rintro e_ W303 ⟨rfl, hq⟩
  refine ⟨_, rfl, ?_⟩
  have di := DI.out.below hq
  have hb := qk HB.out hq
  have hk := KeepBut.of_below hq g none
  clear hq
  replace DI := qa.mk di
  replace HB := qa.mk hb
  replace BKa := qa.mk (KeepBut.blk hk BKa.out NEa.out (by simp))
  replace BKb := qa.mk (KeepBut.blk hk BKb.out NEb.out (by simp))
  replace BKc := qa.mk (KeepBut.blk hk BKc.out NEc.out (by simp))
  replace BKp := qa.mk (KeepBut.blk hk BKp.out NEp.out (by simp))
  replace NAa := qa.mk (NAa.out.keep (KeepT.of hk))
  replace NAb := qa.mk (NAb.out.keep (KeepT.of hk))
  replace NAc := qa.mk (NAc.out.keep (KeepT.of hk))
  replace NAp := qa.mk (NAp.out.keep (KeepT.of hk))
  clear di hb hk
  refine hK.out _ _ ⟨((qf BKa.out 0).trans rfl), ((qf BKb.out 0).trans rfl), ((qf BKc.out 0).trans rfl), ((qf BKp.out 0).trans rfl)⟩ (fun hHeld => ?_)
  clear hK K
  refine xk (a' := ?_) ?_ ?_
  rotate_left
  ·show Act.put _ (some 89) _ = _
   simp only [Act.put, List.setIfInBounds_toArray, List.set_cons_zero, List.set_cons_succ, qt, qu]
   rfl
  refine one_ (i := 30) (N := (some 92)) #[true, true, true, true, true, true, true, true, true, true, true, true, true, true, true, true, true, true, true, true, true, true, true, true, true, true, true, true, true, true, true, false, false, false, false, false, false, false, false] rfl rfl (xn HT_.out (by kernel_rfl)) (by decide) (fun K hK => ?_)
  refine xx Tryd.func17 (by kernel_rfl) rfl #[.agg #[.slice Aa a.length ca], .agg #[.slice Ab b.length cb]] (by rfl) rfl rfl (by (try simp only [List.map_toArray, List.map_cons, List.map_nil]); first | done | rfl | (simp only [List.length_drop, List.length_take]; rfl)) ?_
  refine (withinT _ NAa.out NAb.out FIa.out FIb.out HAB.out).mono ?_
  rintro e_ W304 ⟨rfl, hq⟩
  refine ⟨_, rfl, ?_⟩
  have di := DI.out.below hq
  have hb := qk HB.out hq
  have hk := KeepBut.of_below hq g none
  clear hq
  replace DI := qa.mk di
  replace HB := qa.mk hb
  replace BKa := qa.mk (KeepBut.blk hk BKa.out NEa.out (by simp))
  replace BKb := qa.mk (KeepBut.blk hk BKb.out NEb.out (by simp))
  replace BKc := qa.mk (KeepBut.blk hk BKc.out NEc.out (by simp))
  replace BKp := qa.mk (KeepBut.blk hk BKp.out NEp.out (by simp))
  replace NAa := qa.mk (NAa.out.keep (KeepT.of hk))
  replace NAb := qa.mk (NAb.out.keep (KeepT.of hk))
  replace NAc := qa.mk (NAc.out.keep (KeepT.of hk))
  replace NAp := qa.mk (NAp.out.keep (KeepT.of hk))
  clear di hb hk
  refine hK.out _ _ ⟨((qf BKa.out 0).trans rfl), ((qf BKb.out 0).trans rfl), ((qf BKc.out 0).trans rfl), ((qf BKp.out 0).trans rfl)⟩ (fun hHeld => ?_)
  clear hK K
  refine xk (a' := ?_) ?_ ?_
  rotate_left
  ·show Act.put _ (some 92) _ = _
   simp only [Act.put, List.setIfInBounds_toArray, List.set_cons_zero, List.set_cons_succ, qt, qu]
   rfl
  refine zn (i := 31) (N := (some 93)) (v := ?_) (a' := ?_) #[true, true, true, true, true, true, true, true, true, true, true, true, true, true, true, true, true, true, true, true, true, true, true, true, true, true, true, true, true, true, true, true, false, false, false, false, false, false, false] rfl rfl (q9 HT_.out (by kernel_rfl)) (fun _ _ _ h => h) (Or.inl ⟨by rfl, ?_⟩) ?_ ?_
  rotate_left
  ·intro w'
   go_simp
   with_reducible rfl
  rotate_left
  ·simp only [Act.put, List.setIfInBounds_toArray, List.set_cons_zero, List.set_cons_succ, qt, qu]
   rfl
  refine xc (i := 32) (N := (some 94)) (v := ?_) (a' := ?_) #[true, true, true, true, true, true, true, true, true, true, true, true, true, true, true, true, true, true, true, true, true, true, true, true, true, true, true, true, true, true, true, true, true, false, false, false, false, false, false] rfl rfl (zc HT_.out HW_.out (by kernel_rfl)) (fun _ _ _ h => h) (Or.inl ⟨by rfl, ?_⟩) hHeld ?_ ?_
  rotate_left
  ·rintro w' ⟨s0, s1, s2, s3⟩
   go_simp
   with_reducible rfl
  rotate_left
  ·simp only [Act.put, List.setIfInBounds_toArray, List.set_cons_zero, List.set_cons_succ, qt, qu]
   rfl
  refine xc (i := 33) (N := (some 95)) (v := ?_) (a' := ?_) #[true, true, true, true, true, true, true, true, true, true, true, true, true, true, true, true, true, true, true, true, true, true, true, true, true, true, true, true, true, true, true, true, true, true, false, false, false, false, false] rfl rfl (zc HT_.out HW_.out (by kernel_rfl)) (fun _ _ _ h => h) (Or.inl ⟨by rfl, ?_⟩) hHeld ?_ ?_
  rotate_left
  ·rintro w' ⟨s0, s1, s2, s3⟩
   go_simp
   with_reducible rfl
  rotate_left
  ·simp only [Act.put, List.setIfInBounds_toArray, List.set_cons_zero, List.set_cons_succ, qt, qu]
   rfl
  refine one_ (i := 34) (N := (some 96)) #[true, true, true, true, true, true, true, true, true, true, true, true, true, true, true, true, true, true, true, true, true, true, true, true, true, true, true, true, true, true, true, true, true, true, true, false, false, false, false] rfl rfl (xn HT_.out (by kernel_rfl)) (by decide) (fun K hK => ?_)
  refine xx Tryd.func17 (by kernel_rfl) rfl #[.agg #[.slice Ab b.length cb], .agg #[.slice Aa a.length ca]] (by rfl) rfl rfl (by (try simp only [List.map_toArray, List.map_cons, List.map_nil]); first | done | rfl | (simp only [List.length_drop, List.length_take]; rfl)) ?_
  refine (withinT _ NAb.out NAa.out FIb.out FIa.out HBA.out).mono ?_
  rintro e_ W305 ⟨rfl, hq⟩
  refine ⟨_, rfl, ?_⟩
  have di := DI.out.below hq
  have hb := qk HB.out hq
  have hk := KeepBut.of_below hq g none
  clear hq
  replace DI := qa.mk di
  replace HB := qa.mk hb
  replace BKa := qa.mk (KeepBut.blk hk BKa.out NEa.out (by simp))
  replace BKb := qa.mk (KeepBut.blk hk BKb.out NEb.out (by simp))
  replace BKc := qa.mk (KeepBut.blk hk BKc.out NEc.out (by simp))
  replace BKp := qa.mk (KeepBut.blk hk BKp.out NEp.out (by simp))
  replace NAa := qa.mk (NAa.out.keep (KeepT.of hk))
  replace NAb := qa.mk (NAb.out.keep (KeepT.of hk))
  replace NAc := qa.mk (NAc.out.keep (KeepT.of hk))
  replace NAp := qa.mk (NAp.out.keep (KeepT.of hk))
  clear di hb hk
  refine hK.out _ _ ⟨((qf BKa.out 0).trans rfl), ((qf BKb.out 0).trans rfl), ((qf BKc.out 0).trans rfl), ((qf BKp.out 0).trans rfl)⟩ (fun hHeld => ?_)
  clear hK K
  refine xk (a' := ?_) ?_ ?_
  rotate_left
  ·show Act.put _ (some 96) _ = _
   simp only [Act.put, List.setIfInBounds_toArray, List.set_cons_zero, List.set_cons_succ, qt, qu]
   rfl
  refine zn (i := 35) (N := (some 97)) (v := ?_) (a' := ?_) #[true, true, true, true, true, true, true, true, true, true, true, true, true, true, true, true, true, true, true, true, true, true, true, true, true, true, true, true, true, true, true, true, true, true, true, true, false, false, false] rfl rfl (q9 HT_.out (by kernel_rfl)) (fun _ _ _ h => h) (Or.inl ⟨by rfl, ?_⟩) ?_ ?_
  rotate_left
  ·intro w'
   go_simp
   with_reducible rfl
  rotate_left
  ·simp only [Act.put, List.setIfInBounds_toArray, List.set_cons_zero, List.set_cons_succ, qt, qu]
   rfl
  refine zn (i := 36) (N := (some 98)) (v := ?_) (a' := ?_) #[true, true, true, true, true, true, true, true, true, true, true, true, true, true, true, true, true, true, true, true, true, true, true, true, true, true, true, true, true, true, true, true, true, true, true, true, true, false, false] rfl rfl (q9 HT_.out (by kernel_rfl)) (fun _ _ _ h => h) (Or.inl ⟨by rfl, ?_⟩) ?_ ?_
  rotate_left
  ·intro w'
   go_simp
   with_reducible rfl
  rotate_left
  ·simp only [Act.put, List.setIfInBounds_toArray, List.set_cons_zero, List.set_cons_succ, qt, qu]
   rfl
  refine zn (i := 37) (N := (some 99)) (v := ?_) (a' := ?_) #[true, true, true, true, true, true, true, true, true, true, true, true, true, true, true, true, true, true, true, true, true, true, true, true, true, true, true, true, true, true, true, true, true, true, true, true, true, true, false] rfl rfl (q9 HT_.out (by kernel_rfl)) (fun _ _ _ h => h) (Or.inl ⟨by rfl, ?_⟩) ?_ ?_
  rotate_left
  ·intro w'
   go_simp
   with_reducible rfl
  rotate_left
  ·simp only [Act.put, List.setIfInBounds_toArray, List.set_cons_zero, List.set_cons_succ, qt, qu]
   rfl
  refine zn (i := 38) (N := (some 2)) (v := ?_) (a' := ?_) #[true, true, true, true, true, true, true, true, true, true, true, true, true, true, true, true, true, true, true, true, true, true, true, true, true, true, true, true, true, true, true, true, true, true, true, true, true, true, true] rfl rfl (q9 HT_.out (by kernel_rfl)) (fun _ _ _ h => h) (Or.inl ⟨by rfl, ?_⟩) ?_ ?_
  rotate_left
  ·intro w'
   go_simp
   with_reducible rfl
  rotate_left
  ·simp only [Act.put, List.setIfInBounds_toArray, List.set_cons_zero, List.set_cons_succ, qt, qu]
   rfl
  refine done_ (done_of HT_.out (by kernel_rfl)) ?_
  try go_wp2
  go_ret
  exact ⟨rfl, HB.out⟩
def ka.Pure : Prop := True
theorem ka.walk (P : ka.Pure) (a0 : Option Addr) (len0 cap0 : Nat) (z0 : List Int) (w : World) (hG : LibHeld w) (w0 : (a0 = none ∧ len0 = 0 ∧ cap0 = 0 ∧ z0 = []) ∨ ∃ x, a0 = some x ∧ len0 ≤ cap0 ∧ cap0 ≤ maxLen ∧ z0.length = cap0 ∧ (∀ i, i < z0.length → w.cell? (x.add i) = some (.int .i64 (z0.getD i 0))) ∧ ∀ n ∈ z0, (Lit.int .i64 n).wf = true) (y0 : len0 * 8 ≤ 140737488351232) :
  Calls Tryd.prog 5 #[.slice a0 len0 cap0] w fun e w' => e = .returned (.bool true) ∧ Below w.heap.size w w' := by
 obtain ⟨l0, rfl, hr0, hm0, hw0, hc0⟩ := ReadsInt.ofRowC w0
 exact order_calls _ _ l0 w hG (Kd.C_of_reads (d := (0 : Int)) (h1 := fun _ => rfl) hr0) hc0 (by omega)
end Go.Proofs.YtjhlinifnjoefaaDoor.C
namespace Go.Proofs.YtjhlinifnjoefaaDoor.Pure
open Go.Proofs.YtjhlinifnjoefaaDoor.C
theorem NameOrder : ka.Pure := trivial
end Go.Proofs.YtjhlinifnjoefaaDoor.Pure
end
