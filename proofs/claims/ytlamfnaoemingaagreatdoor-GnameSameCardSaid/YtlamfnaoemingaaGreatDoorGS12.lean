/- Words, walks and plain laws that the claim rests on, gathered. -/
import Derived.Shelf.Strings.Builder1
import Derived.Shelf.Strings.Builder2
import Derived.Shelf.Strings.OnBuilder
import Derived.Shelf.Small.Bits
import Derived.Shelf.Small.Strs
import Derived.Shelf.Small.Wraps
import Derived.Shelf.Strings.BuilderF
import Derived.Shelf.Strings.BuilderK
import Derived.Shelf.Utf8.RuneCount
import Derived.Shelf.Strings.Builder2Cap
import Derived.Shelf.Strconv.Itoa0
import Derived.Shelf.Strings.Search1
import Derived.Shelf.Strings.Search2
import Derived.Shelf.Strings.Search3
import Derived.Shelf.Strings.Cut
import Derived.Shelf.Strings.Count
import Derived.Shelf.LaysM
import Derived.Shelf.Strings.Shaped
import Derived.Shelf.Sort.Plain
import Derived.Shelf.Strings.Prefix
import Derived.Shelf.Strings.Split
import Derived.Shelf.Strings.SplitShaped
import Derived.Shelf.Unicode.Decode
import Derived.Shelf.Strings.RuneCount
import Derived.Shelf.Strings.Explode
import Derived.Shelf.Unicode.DecodeSlow
import Derived.Shelf.Unicode.DecodeAny
import Derived.Shelf.Strings.BuilderCap
import Derived.Shelf.Slices.In.SortNone
import Derived.Shelf.Slices.In.SortNone2
import Derived.Test.YtlamfnaoemingaaGreatDoorProg
import Derived.Below
import Derived.Deep.Draws
import Derived.Deep.AppendLies
import Derived.Maps.AppendAt
import Derived.OwnWalk
import Derived.Laws.BytesArg
import Derived.Laws.MakeOwn
import Derived.Laws.OwnMore
import Derived.Deep.OwnRows
import Derived.Tactics
import Derived.Lib.ConvBytes
import Derived.Laws.Slices
import Derived.WalkKit
import Derived.KernelRfl
import Derived.RowKit3
import Derived.Deep.LoopGhost
import Derived.Deep.QuietTactic
import Derived.BigQuiet
import Derived.WideLaws
import Derived.Deep.DeepCutAuto
import Derived.Deep.CutBlock
import Derived.Deep.RegionHeld3
import Derived.Laws.Rows
import Derived.Lib.AppendStr
import Derived.ArgAppend
import Derived.Laws.IdiomCopy
import Derived.RowKit
import Derived.WalkSpells
import Derived.OrdersHeld
import Derived.Laws.BitsLemmas
import Derived.WalkLawsBesides
import Derived.Lib.SplitLaws
import Derived.Laws.StructEq
import Derived.SizedLaws
import Derived.ChangeSlices
import Derived.Test.YtlamfnaoemingaaGreatDoorGS0
import Derived.Test.YtlamfnaoemingaaGreatDoorGS1
import Derived.Test.YtlamfnaoemingaaGreatDoorGS2
import Derived.Test.YtlamfnaoemingaaGreatDoorGS3
import Derived.Test.YtlamfnaoemingaaGreatDoorGS4
import Derived.Test.YtlamfnaoemingaaGreatDoorGS5
import Derived.Test.YtlamfnaoemingaaGreatDoorGS6
import Derived.Test.YtlamfnaoemingaaGreatDoorGS7
import Derived.Test.YtlamfnaoemingaaGreatDoorGS8
import Derived.Test.YtlamfnaoemingaaGreatDoorGS9
import Derived.Test.YtlamfnaoemingaaGreatDoorGS10
import Derived.Test.YtlamfnaoemingaaGreatDoorGS11
import Derived.Test.YtlamfnaoemingaaGreatDoorGSc
namespace Go.Proofs.YtlamfnaoemingaaGreatDoorW.PrintLast
end Go.Proofs.YtlamfnaoemingaaGreatDoorW.PrintLast
namespace Go.Proofs.YtlamfnaoemingaaGreatDoorW.PrintMore
end Go.Proofs.YtlamfnaoemingaaGreatDoorW.PrintMore
namespace Go.Proofs.YtlamfnaoemingaaGreatDoorW.PrintWords
end Go.Proofs.YtlamfnaoemingaaGreatDoorW.PrintWords
section
namespace Go.Proofs.YtlamfnaoemingaaGreatDoor.C
open Go.RowKit Go.Proofs.YtlamfnaoemingaaGreatDoorW.PrintWords Go.Proofs.YtlamfnaoemingaaGreatDoorW.PrintLast Go.Proofs.YtlamfnaoemingaaGreatDoorW.PrintMore Go.Proofs.YtlamfnaoemingaaGreatDoor.Pl
attribute [local go_sem] zw zx xe xd zn zp zy zz
set_option linter.unusedVariables false
set_option linter.unusedSimpArgs false
structure SG (w : World) (g ga gb : Nat) (csa csb : Array Value) (Aa : Option Addr) (ca : Nat) (na : List (List S83)) (Ab : Option Addr) (cb : Nat) (nb : List (List S83)) (W : World) : Prop where
 di : DK w W g
 hb : Below w.heap.size w W
 ba : W.heap[ga]? = some (.cells csa 32 (0, 0))
 bb : W.heap[gb]? = some (.cells csb 32 (0, 0))
 nA : NameAt g W Aa ca na
 nB : NameAt g W Ab cb nb
 ge : w.heap.size ≤ gb
 ab : ga ≠ gb
 ag : ga ≠ g
 bg : gb ≠ g
section
variable {w : World} {g ga gb : Nat} {csa csb : Array Value} {Aa Ab : Option Addr} {ca cb : Nat} {na nb : List (List S83)} {W W' : World}
theorem SG.below (h : SG w g ga gb csa csb Aa ca na Ab cb nb W) (hb : Below W.heap.size W W') : SG w g ga gb csa csb Aa ca na Ab cb nb W' :=
 ⟨h.di.below hb, qf h.hb hb, qx h.ba hb, qx h.bb hb, h.nA.keep (KeepT.of (KeepBut.of_below hb g none)), h.nB.keep (KeepT.of (KeepBut.of_below hb g none)), h.ge, h.ab, h.ag, h.bg⟩
theorem SG.call (h : SG w g ga gb csa csb Aa ca na Ab cb nb W) (hd : DK w W' g) (hb : Below w.heap.size w W') (hk : KeepBut W W' g none) : SG w g ga gb csa csb Aa ca na Ab cb nb W' :=
 ⟨hd, hb, KeepBut.blk hk h.ba h.ag y7, KeepBut.blk hk h.bb h.bg y7, h.nA.keep (KeepT.of hk), h.nB.keep (KeepT.of hk), h.ge, h.ab, h.ag, h.bg⟩
theorem SG.set {cs' : Array Value} (h : SG w g ga gb csa csb Aa ca na Ab cb nb W) (j : Nat) (u : Value) (e : csb.set! j u = cs') : SG w g ga gb csa cs' Aa ca na Ab cb nb (W.setCell ⟨gb, j, none⟩ u) :=
 have hk := KeepT.farG (g := g) h.bb j u
 ⟨h.di.far (p := ⟨gb, j, none⟩) (fun e => h.bg e.symm) u, qh h.hb h.ge, blk_far h.ba (p := ⟨gb, j, none⟩) h.ab u, xo h.bb j u e, h.nA.keep hk, h.nB.keep hk, h.ge, h.ab, h.ag, h.bg⟩
theorem SG.copy (h : SG w g ga gb csa csb Aa ca na Ab cb nb W) : SG w g ga gb csa csb Aa ca na Aa ca na W := ⟨h.di, h.hb, h.ba, h.bb, h.nA, h.nA, h.ge, h.ab, h.ag, h.bg⟩
end
theorem sameC (W : World) (hG : LibHeld W) {g1 g2 : Nat} {kd kd' : Int} {t t' : ByteArray} {A A' : Option Addr} {c c' : Nat} {n n' : List (List S83)} (hn : NameAt g1 W A c n) (hn' : NameAt g2 W A' c' n') (hg : GM kd t n) (hh : GM kd' t' n') {r : Bool} (h : sameV kd t n kd' t' n' = r) :
  Calls Tryz.prog 39 #[.agg #[.int .i64 kd, .string t, .slice A n.length c], .agg #[.int .i64 kd', .string t', .slice A' n'.length c']] W fun e w' => e = .returned (.bool r) ∧ Below W.heap.size W w' := by
 obtain ⟨k, hk⟩ := same_ev hg hh
 rw [h] at hk
 exact qz.calls k kd t A c n kd' t' A' c' n' r W hG hn.now hn.cap hn'.now hn'.cap hk
theorem withC (W : World) (hG : LibHeld W) {g1 g2 : Nat} {kd kd' : Int} {t t' : ByteArray} {A A' : Option Addr} {c c' : Nat} {n n' : List (List S83)} (hn : NameAt g1 W A c n) (hn' : NameAt g2 W A' c' n') (hg : GM kd t n) (hh : baseMade kd' t' n') {r : Bool} (h : withV kd t n kd' t' n' = r) :
  Calls Tryz.prog 43 #[.agg #[.int .i64 kd, .string t, .slice A n.length c], .agg #[.int .i64 kd', .string t', .slice A' n'.length c']] W fun e w' => e = .returned (.bool r) ∧ Below W.heap.size W w' := by
 obtain ⟨k, hk⟩ := with_ev hg hh
 rw [h] at hk
 exact xi.calls k kd t A c n kd' t' A' c' n' r W hG hn.now hn.cap hn'.now hn'.cap hk
theorem lowerC (W : World) {kd : Int} {t : ByteArray} {n : List (List S83)} (hg : generalMade kd t n) : Calls Tryz.prog 45 #[.string t] W fun e w' => e = .returned (.string (lowBA t)) ∧ Below W.heap.size W w' := xk.calls t (lowBA t) W (low_f hg)
def same.T13 : Bool × List (List Nat × List Nat) := (true, [([], []), ([], []), ([0, 1], [0, 1]), ([], []), ([], []), ([3, 4, 2], [3, 4]), ([2, 5], [2, 5])])
def same.B13 : List Nat := [0, 0, 3, 0, 0, 31, 63]
theorem same.tab13 : rtab .any (opsOf Tryz.f8 13) = same.T13 := by kernel_rfl
theorem same.bits13 : waitsOk same.T13.2 same.B13 = true := by kernel_rfl
set_option maxHeartbeats 16000000 in
set_option maxRecDepth 100000 in
theorem samelaw_calls (A0 : Option Addr) (c0 : Nat) (l : List Int) (w : World) (hG : LibHeld w) (hl : Kd.C (Kd.int .i64) w A0 l.length l) (hc : l.length ≤ c0) (hL : l.length ≤ 140737488351232) :
  Calls Tryz.prog 8 #[.slice A0 l.length c0] w fun e w' => e = .returned (.bool true) ∧ Below w.heap.size w w' := by
 have hu32 := Tryz.underlying32
 have hu30 := Tryz.underlying30
 have HG := qd.mk hG
 have HL := qd.mk hl
 have HC := qd.mk hc
 have HLL := qd.mk hL
 clear hG hl hc hL
 go_enter Tryz.func8, Tryz.ntmps8
 go_upto_region 2 with ((with_reducible refine at_c 13 ?_); go_at_call 13; refine (newT _ A0 c0 l HL.out HC.out HLL.out).mono ?_; rintro e W1 ⟨g, rfl, di, hb⟩; have DI := qd.mk di; have HB := qd.mk hb; clear di hb)
 go_upto_region 3 with (first
  | ((fail_if_success have t1_ := @tok1); (with_reducible refine at_c 18 ?_); go_at_call 18; refine (general_weak g w _ DI.out HB.out).mono ?_; rintro e W2 ⟨ka, ta, Aa, ca, na, rfl, ma, nA, di, hb, hk⟩; have tok1 : True := trivial; have MA := qd.mk ma; have NA := qd.mk nA; replace DI := qd.mk di; replace HB := qd.mk hb; clear ma nA di hb hk)
  | ((with_reducible refine at_c 18 ?_); go_at_call 18; refine (general_weak g w _ DI.out HB.out).mono ?_; rintro e W3 ⟨kb, tb, Ab, cb, nb, rfl, mb, nB, di, hb, hk⟩; replace NA := qd.mk (NA.out.keep (KeepT.of hk)); have MB := qd.mk mb; have NB := qd.mk nB; replace DI := qd.mk di; replace HB := qd.mk hb; clear mb nB di hb hk))
 clear tok1
 obtain ⟨W4, hWW⟩ : ∃ W_, W_ = (W3.alloc (Obj.cells #[Value.int .i64 ka, Value.string ta, Value.slice Aa na.length ca] 32)).alloc (Obj.cells #[Value.int .i64 kb, Value.string tb, Value.slice Ab nb.length cb] 32) := ⟨_, rfl⟩
 rw [← hWW]
 have hb4 : Below W3.heap.size W3 W4 := by rw [hWW]; exact qb (qb (Below.refl _ _) _) _
 have ST := qd.mk (show SG w g W3.heap.size (W3.heap.size + 1) #[.int .i64 ka, .string ta, .slice Aa na.length ca] #[.int .i64 kb, .string tb, .slice Ab nb.length cb] Aa ca na Ab cb nb W4 from
  ⟨DI.out.below hb4, qf HB.out hb4, by rw [hWW]; exact ql (heap_alloc_new W3 _) _, by rw [hWW]; simpa using heap_alloc_new (W3.alloc (Obj.cells #[Value.int .i64 ka, Value.string ta, Value.slice Aa na.length ca] 32)) (Obj.cells #[Value.int .i64 kb, Value.string tb, Value.slice Ab nb.length cb] 32),
   NA.out.keep (KeepT.of (KeepBut.of_below hb4 g none)), NB.out.keep (KeepT.of (KeepBut.of_below hb4 g none)), by have := HB.out.size; omega, by omega, by have := DI.out.lt; omega, by have := DI.out.lt; omega⟩)
 clear hWW hb4 DI HB NA NB
 generalize W3.heap.size + 1 = gb at ST ⊢
 generalize W3.heap.size = ga at ST ⊢
 have GA := qd.mk (GM.made MA.out)
 have GB := qd.mk (GM.made MB.out)
 clear MB
 go_upto_if 16 with ((with_reducible refine at_c 24 ?_); go_at_call 24; refine (ke g 2 yo yo w _ ST.out.di ST.out.hb).mono ?_; rintro e W5 ⟨x, rfl, hx_0, hx_1, di, hb, hk⟩; replace ST := qd.mk (ST.out.call di hb hk); clear di hb hk)
 go_cut [9] (fun v9 wc => ∃ (kb : Int) (tb : ByteArray) (Ab : Option Addr) (cb : Nat) (nb : List (List S83)), qd (SG w g ga gb #[.int .i64 ka, .string ta, .slice Aa na.length ca] #[.int .i64 kb, .string tb, .slice Ab nb.length cb] Aa ca na Ab cb nb wc) ∧ qd (GM kb tb nb))
 case first =>
  obtain rfl | rfl : x = 0 ∨ x = 1 := by omega
  ·go_wp2
   go_meet
   case rel => exact ⟨kb, tb, Ab, cb, nb, ST, GB⟩
  ·clear hx_0 hx_1
   have za0 : W5.cell? ⟨ga, 0, none⟩ = some (.int .i64 ka) := (qe ST.out.ba 0).trans rfl
   have zaf0 := qg ST.out.ba 0
   have za1 : W5.cell? ⟨ga, 1, none⟩ = some (.string ta) := (qe ST.out.ba 1).trans rfl
   have zaf1 := qg ST.out.ba 1
   have za2 : W5.cell? ⟨ga, 2, none⟩ = some (.slice Aa na.length ca) := (qe ST.out.ba 2).trans rfl
   have zaf2 := qg ST.out.ba 2
   have zb0 : W5.cell? ⟨gb, 0, none⟩ = some (.int .i64 kb) := (qe ST.out.bb 0).trans rfl
   have zbf0 := qg ST.out.bb 0
   have zb1 : W5.cell? ⟨gb, 1, none⟩ = some (.string tb) := (qe ST.out.bb 1).trans rfl
   have zbf1 := qg ST.out.bb 1
   have zb2 : W5.cell? ⟨gb, 2, none⟩ = some (.slice Ab nb.length cb) := (qe ST.out.bb 2).trans rfl
   have zbf2 := qg ST.out.bb 2
   go_upto_region 5 with (fail)
   clear za0 zaf0 za1 zaf1 za2 zaf2 zb0 zbf0 zb1 zbf1 zb2 zbf2
   obtain ⟨W6, hW6⟩ : ∃ W_, W_ = ((W5.setCell ⟨gb, 0, none⟩ (.int .i64 ka)).setCell ⟨gb, 1, none⟩ (.string ta)).setCell ⟨gb, 2, none⟩ (.slice Aa na.length ca) := ⟨_, rfl⟩
   rw [← hW6]
   have ST6 := qd.mk (show SG w g ga gb #[.int .i64 ka, .string ta, .slice Aa na.length ca] #[.int .i64 ka, .string ta, .slice Aa na.length ca] Aa ca na Aa ca na W6 by rw [hW6]; exact (((ST.out.set 0 _ rfl).set 1 _ rfl).set 2 _ rfl).copy)
   clear hW6 ST GB
   have ST := ST6
   clear ST6
   have za0 : W6.cell? ⟨ga, 0, none⟩ = some (.int .i64 ka) := (qe ST.out.ba 0).trans rfl
   have zaf0 := qg ST.out.ba 0
   have za1 : W6.cell? ⟨ga, 1, none⟩ = some (.string ta) := (qe ST.out.ba 1).trans rfl
   have zaf1 := qg ST.out.ba 1
   have za2 : W6.cell? ⟨ga, 2, none⟩ = some (.slice Aa na.length ca) := (qe ST.out.ba 2).trans rfl
   have zaf2 := qg ST.out.ba 2
   have zb0 : W6.cell? ⟨gb, 0, none⟩ = some (.int .i64 ka) := (qe ST.out.bb 0).trans rfl
   have zbf0 := qg ST.out.bb 0
   have zb1 : W6.cell? ⟨gb, 1, none⟩ = some (.string ta) := (qe ST.out.bb 1).trans rfl
   have zbf1 := qg ST.out.bb 1
   have zb2 : W6.cell? ⟨gb, 2, none⟩ = some (.slice Aa na.length ca) := (qe ST.out.bb 2).trans rfl
   have zbf2 := qg ST.out.bb 2
   by_cases hka : ka = 2
   ·subst hka
    clear zb0 zbf0 zb1 zbf1 zb2 zbf2 za0 za2
    have zb0 : W6.cell? ⟨gb, 0, none⟩ = some (.int .i64 2) := (qe ST.out.bb 0).trans rfl
    go_wp2_with ((with_reducible refine at_c 45 ?_); go_at_call 45; refine (lowerC _ MA.out).mono ?_; rintro e W7 ⟨rfl, hq⟩; replace ST := qd.mk (ST.out.below hq); clear hq; have zb1 : W7.cell? ⟨gb, 1, none⟩ = some (.string ta) := (qe ST.out.bb 1).trans rfl; have zbf1 := qg ST.out.bb 1)
    go_meet
    case rel => exact ⟨2, lowBA ta, Aa, ca, na, ⟨ST.out.set 1 _ rfl⟩, ⟨GM.low MA.out⟩⟩
   ·have hb0 : decide (ka = 2) = false := decide_eq_false hka
    go_wp2
    go_meet
    case rel => exact ⟨ka, ta, Aa, ca, na, ST, GA⟩
 case rest =>
  clear GB ST MA hx_0 hx_1
  obtain ⟨kb, tb, Ab, cb, nb, ST, GB⟩ := hcut
  have za0 : wc.cell? ⟨ga, 0, none⟩ = some (.int .i64 ka) := (qe ST.out.ba 0).trans rfl
  have zaf0 := qg ST.out.ba 0
  have za1 : wc.cell? ⟨ga, 1, none⟩ = some (.string ta) := (qe ST.out.ba 1).trans rfl
  have zaf1 := qg ST.out.ba 1
  have za2 : wc.cell? ⟨ga, 2, none⟩ = some (.slice Aa na.length ca) := (qe ST.out.ba 2).trans rfl
  have zaf2 := qg ST.out.ba 2
  have zb0 : wc.cell? ⟨gb, 0, none⟩ = some (.int .i64 kb) := (qe ST.out.bb 0).trans rfl
  have zbf0 := qg ST.out.bb 0
  have zb1 : wc.cell? ⟨gb, 1, none⟩ = some (.string tb) := (qe ST.out.bb 1).trans rfl
  have zbf1 := qg ST.out.bb 1
  have zb2 : wc.cell? ⟨gb, 2, none⟩ = some (.slice Ab nb.length cb) := (qe ST.out.bb 2).trans rfl
  have zbf2 := qg ST.out.bb 2
  obtain ⟨r, hr⟩ : ∃ r, sameV ka ta na kb tb nb = r := ⟨_, rfl⟩
  have HR := qd.mk hr
  clear hr
  cases r with
  | false =>
   go_wp2_with (first | ((with_reducible refine at_c 39 ?_); go_at_call 39; refine (sameC _ (LibHeld.below HG.out ST.out.hb) ST.out.nA ST.out.nB GA.out GB.out HR.out).mono ?_; rintro e W8 ⟨rfl, hq⟩; replace ST := qd.mk (ST.out.below hq); clear hq; skip) | ((with_reducible refine at_c 33 ?_); go_at_call 33; refine (awake9 _ (LibHeld.below HG.out ST.out.hb)).mono ?_; rintro e W9 ⟨rfl, hq⟩; replace ST := qd.mk (ST.out.below hq); clear hq; skip))
   go_ret
   exact ⟨rfl, ST.out.hb⟩
  | true =>
   go_upto_region 9 with ((with_reducible refine at_c 39 ?_); go_at_call 39; refine (sameC _ (LibHeld.below HG.out ST.out.hb) ST.out.nA ST.out.nB GA.out GB.out HR.out).mono ?_; rintro e W8 ⟨rfl, hq⟩; replace ST := qd.mk (ST.out.below hq); clear hq; skip)
   go_wp2
   go_loopg [6] 6 (fun kq v6 w' => ∃ i : Nat, v6 = .int .i64 i ∧ qd (i + kq = 6) ∧ qd (SG w g ga gb #[.int .i64 ka, .string ta, .slice Aa na.length ca] #[.int .i64 kb, .string tb, .slice Ab nb.length cb] Aa ca na Ab cb nb w'))
   case atStart => exact ⟨0, rfl, ⟨by omega⟩, ST⟩
   case round =>
    clear ST
    obtain ⟨i, rfl, hi, ST⟩ := hrel
    cases gk with
    | zero =>
     obtain rfl : i = 6 := by have := hi.out; omega
     have HRc := qd.mk ((same_comm GB.out GA.out).trans HR.out)
     have HRr := qd.mk (same_refl GA.out)
     have za0 : wr.cell? ⟨ga, 0, none⟩ = some (.int .i64 ka) := (qe ST.out.ba 0).trans rfl
     have za1 : wr.cell? ⟨ga, 1, none⟩ = some (.string ta) := (qe ST.out.ba 1).trans rfl
     have za2 : wr.cell? ⟨ga, 2, none⟩ = some (.slice Aa na.length ca) := (qe ST.out.ba 2).trans rfl
     have zb0 : wr.cell? ⟨gb, 0, none⟩ = some (.int .i64 kb) := (qe ST.out.bb 0).trans rfl
     have zb1 : wr.cell? ⟨gb, 1, none⟩ = some (.string tb) := (qe ST.out.bb 1).trans rfl
     have zb2 : wr.cell? ⟨gb, 2, none⟩ = some (.slice Ab nb.length cb) := (qe ST.out.bb 2).trans rfl
     go_wp2_with (first | ((with_reducible refine at_c 33 ?_); go_at_call 33; refine (awake9 _ (LibHeld.below HG.out ST.out.hb)).mono ?_; rintro e W9 ⟨rfl, hq⟩; replace ST := qd.mk (ST.out.below hq); clear hq; clear za0 za1 za2 zb0 zb1 zb2; have za0 : W9.cell? ⟨ga, 0, none⟩ = some (.int .i64 ka) := (qe ST.out.ba 0).trans rfl; have za1 : W9.cell? ⟨ga, 1, none⟩ = some (.string ta) := (qe ST.out.ba 1).trans rfl; have za2 : W9.cell? ⟨ga, 2, none⟩ = some (.slice Aa na.length ca) := (qe ST.out.ba 2).trans rfl; have zb0 : W9.cell? ⟨gb, 0, none⟩ = some (.int .i64 kb) := (qe ST.out.bb 0).trans rfl; have zb1 : W9.cell? ⟨gb, 1, none⟩ = some (.string tb) := (qe ST.out.bb 1).trans rfl; have zb2 : W9.cell? ⟨gb, 2, none⟩ = some (.slice Ab nb.length cb) := (qe ST.out.bb 2).trans rfl) | ((with_reducible refine at_c 39 ?_); go_at_call 39; (with_reducible refine (sameC _ (LibHeld.below HG.out ST.out.hb) ST.out.nB ST.out.nA GB.out GA.out HRc.out).mono ?_); rintro e W8 ⟨rfl, hq⟩; replace ST := qd.mk (ST.out.below hq); clear hq; clear za0 za1 za2 zb0 zb1 zb2; have za0 : W8.cell? ⟨ga, 0, none⟩ = some (.int .i64 ka) := (qe ST.out.ba 0).trans rfl; have za1 : W8.cell? ⟨ga, 1, none⟩ = some (.string ta) := (qe ST.out.ba 1).trans rfl; have za2 : W8.cell? ⟨ga, 2, none⟩ = some (.slice Aa na.length ca) := (qe ST.out.ba 2).trans rfl; have zb0 : W8.cell? ⟨gb, 0, none⟩ = some (.int .i64 kb) := (qe ST.out.bb 0).trans rfl; have zb1 : W8.cell? ⟨gb, 1, none⟩ = some (.string tb) := (qe ST.out.bb 1).trans rfl; have zb2 : W8.cell? ⟨gb, 2, none⟩ = some (.slice Ab nb.length cb) := (qe ST.out.bb 2).trans rfl) | ((with_reducible refine at_c 39 ?_); go_at_call 39; (with_reducible refine (sameC _ (LibHeld.below HG.out ST.out.hb) ST.out.nA ST.out.nA GA.out GA.out HRr.out).mono ?_); rintro e W8 ⟨rfl, hq⟩; replace ST := qd.mk (ST.out.below hq); clear hq; clear za0 za1 za2 zb0 zb1 zb2; have za0 : W8.cell? ⟨ga, 0, none⟩ = some (.int .i64 ka) := (qe ST.out.ba 0).trans rfl; have za1 : W8.cell? ⟨ga, 1, none⟩ = some (.string ta) := (qe ST.out.ba 1).trans rfl; have za2 : W8.cell? ⟨ga, 2, none⟩ = some (.slice Aa na.length ca) := (qe ST.out.ba 2).trans rfl; have zb0 : W8.cell? ⟨gb, 0, none⟩ = some (.int .i64 kb) := (qe ST.out.bb 0).trans rfl; have zb1 : W8.cell? ⟨gb, 1, none⟩ = some (.string tb) := (qe ST.out.bb 1).trans rfl; have zb2 : W8.cell? ⟨gb, 2, none⟩ = some (.slice Ab nb.length cb) := (qe ST.out.bb 2).trans rfl))
     go_ret
     exact ⟨rfl, ST.out.hb⟩
    | succ k1 =>
     have hb0 : decide ((i : Int) < 6) = true := decide_eq_true (by have := hi.out; omega)
     have W1i := qd.mk (show wrap64 ((i : Int) + 1) = ((i + 1 : Nat) : Int) by have := hi.out; unfold wrap64; omega)
     go_upto_region 13 with ((with_reducible refine at_c 19 ?_); go_at_call 19; refine (base_weak g w _ ST.out.di ST.out.hb).mono ?_; rintro e W10 ⟨kc, tc, Ac, cc, nc, rfl, mc, nC, di, hb, hk⟩; have NC := qd.mk nC; have MC := qd.mk mc; replace ST := qd.mk (ST.out.call di hb hk); clear nC mc di hb hk)
     clear hb0
     obtain ⟨W11, hW⟩ : ∃ W_, W_ = W10.alloc (Obj.cells #[Value.int .i64 kc, Value.string tc, Value.slice Ac nc.length cc] 32) := ⟨_, rfl⟩
     rw [← hW]
     have hb11 : Below W10.heap.size W10 W11 := by rw [hW]; exact qb (Below.refl _ _) _
     have BC := qd.mk (show W11.heap[W10.heap.size]? = some (.cells #[.int .i64 kc, .string tc, .slice Ac nc.length cc] 32 (0, 0)) by rw [hW]; exact heap_alloc_new _ _)
     replace NC := qd.mk (NC.out.keep (KeepT.of (KeepBut.of_below hb11 g none)))
     replace ST := qd.mk (ST.out.below hb11)
     clear hb11 hW
     generalize W10.heap.size = gc at BC ⊢
     have HV := qd.mk (same_within GA.out GB.out MC.out HR.out)
     obtain ⟨v, hv⟩ : ∃ v, withV kb tb nb kc tc nc = v := ⟨_, rfl⟩
     have HVb := qd.mk hv
     have HVa := qd.mk (HV.out.trans hv)
     clear hv HV
     have hdr : Below W11.heap.size W11 W11.drew := below_drew (Below.refl _ _)
     replace NC := qd.mk (NC.out.keep (KeepT.of (KeepBut.of_below hdr g none)))
     replace BC := qd.mk (qx BC.out hdr)
     replace ST := qd.mk (ST.out.below hdr)
     clear hdr
     refine start_ (n := 7) (S := fun w' => w'.cell? ⟨ga, 0, none⟩ = some (.int .i64 ka) ∧ w'.cell? ⟨ga, 1, none⟩ = some (.string ta) ∧ w'.cell? ⟨ga, 2, none⟩ = some (.slice Aa na.length ca) ∧ w'.cell? ⟨gb, 0, none⟩ = some (.int .i64 kb) ∧ w'.cell? ⟨gb, 1, none⟩ = some (.string tb) ∧ w'.cell? ⟨gb, 2, none⟩ = some (.slice Ab nb.length cb) ∧ w'.cell? ⟨gc, 0, none⟩ = some (.int .i64 kc) ∧ w'.cell? ⟨gc, 1, none⟩ = some (.string tc) ∧ w'.cell? ⟨gc, 2, none⟩ = some (.slice Ac nc.length cc)) (ds := []) #[false, false, false, false, false, false, false] yg rfl rfl ⟨(qe ST.out.ba 0).trans rfl, (qe ST.out.ba 1).trans rfl, (qe ST.out.ba 2).trans rfl, (qe ST.out.bb 0).trans rfl, (qe ST.out.bb 1).trans rfl, (qe ST.out.bb 2).trans rfl, (qe BC.out 0).trans rfl, (qe BC.out 1).trans rfl, (qe BC.out 2).trans rfl⟩ (fun hHeld => ?_); refine with_tabW same.tab13 same.bits13 (fun HT_ HW_ => ?_)
     generalize W11.drew = Wd at BC NC ST hHeld ⊢
     refine take_ (i := 0) (N := (some 36)) (v := ?_) (a' := ?_) #[true, false, false, false, false, false, false] rfl rfl (xu HT_.out HW_.out yg) (fun _ _ _ h => h) (Or.inl ⟨by rfl, ?_⟩) hHeld ?_ ?_
     rotate_left
     ·rintro w' ⟨s0, s1, s2, s3, s4, s5, s6, s7, s8⟩
      go_simp
      with_reducible rfl
     rotate_left
     ·simp only [Act.put, List.setIfInBounds_toArray, List.set_cons_zero, List.set_cons_succ, zg, zi]
      rfl
     refine take_ (i := 1) (N := (some 37)) (v := ?_) (a' := ?_) #[true, true, false, false, false, false, false] rfl rfl (xu HT_.out HW_.out yg) (fun _ _ _ h => h) (Or.inl ⟨by rfl, ?_⟩) hHeld ?_ ?_
     rotate_left
     ·rintro w' ⟨s0, s1, s2, s3, s4, s5, s6, s7, s8⟩
      go_simp
      with_reducible rfl
     rotate_left
     ·simp only [Act.put, List.setIfInBounds_toArray, List.set_cons_zero, List.set_cons_succ, zg, zi]
      rfl
     refine take_ (i := 3) (N := (some 39)) (v := ?_) (a' := ?_) #[true, true, false, true, false, false, false] rfl rfl (xu HT_.out HW_.out yg) (fun _ _ _ h => h) (Or.inl ⟨by rfl, ?_⟩) hHeld ?_ ?_
     rotate_left
     ·rintro w' ⟨s0, s1, s2, s3, s4, s5, s6, s7, s8⟩
      go_simp
      with_reducible rfl
     rotate_left
     ·simp only [Act.put, List.setIfInBounds_toArray, List.set_cons_zero, List.set_cons_succ, zg, zi]
      rfl
     refine take_ (i := 4) (N := (some 40)) (v := ?_) (a' := ?_) #[true, true, false, true, true, false, false] rfl rfl (xu HT_.out HW_.out yg) (fun _ _ _ h => h) (Or.inl ⟨by rfl, ?_⟩) hHeld ?_ ?_
     rotate_left
     ·rintro w' ⟨s0, s1, s2, s3, s4, s5, s6, s7, s8⟩
      go_simp
      with_reducible rfl
     rotate_left
     ·simp only [Act.put, List.setIfInBounds_toArray, List.set_cons_zero, List.set_cons_succ, zg, zi]
      rfl
     refine one_ (i := 2) (N := (some 38)) #[true, true, true, true, true, false, false] rfl rfl (one_of HT_.out yg) (by decide) (fun K hK => ?_)
     refine goes_ Tryz.func43 yg rfl #[.agg #[.int .i64 ka, .string ta, .slice Aa na.length ca], .agg #[.int .i64 kc, .string tc, .slice Ac nc.length cc]] (by rfl) rfl rfl cz ?_
     refine (withC _ (LibHeld.below HG.out ST.out.hb) ST.out.nA NC.out GA.out MC.out HVa.out).mono ?_
     rintro e_ W12 ⟨rfl, hq⟩
     refine ⟨_, rfl, ?_⟩
     replace NC := qd.mk (NC.out.keep (KeepT.of (KeepBut.of_below hq g none)))
     replace BC := qd.mk (qx BC.out hq)
     replace ST := qd.mk (ST.out.below hq)
     clear hq
     refine hK.out _ _ ⟨(qe ST.out.ba 0).trans rfl, (qe ST.out.ba 1).trans rfl, (qe ST.out.ba 2).trans rfl, (qe ST.out.bb 0).trans rfl, (qe ST.out.bb 1).trans rfl, (qe ST.out.bb 2).trans rfl, (qe BC.out 0).trans rfl, (qe BC.out 1).trans rfl, (qe BC.out 2).trans rfl⟩ (fun hHeld => ?_)
     clear hK K
     refine norm_ (a' := ?_) ?_ ?_
     rotate_left
     ·show Act.put _ (some 38) _ = _
      simp only [Act.put, List.setIfInBounds_toArray, List.set_cons_zero, List.set_cons_succ, zg, zi]
      rfl
     refine one_ (i := 5) (N := (some 41)) #[true, true, true, true, true, true, false] rfl rfl (one_of HT_.out yg) (by decide) (fun K hK => ?_)
     refine goes_ Tryz.func43 yg rfl #[.agg #[.int .i64 kb, .string tb, .slice Ab nb.length cb], .agg #[.int .i64 kc, .string tc, .slice Ac nc.length cc]] (by rfl) rfl rfl cz ?_
     refine (withC _ (LibHeld.below HG.out ST.out.hb) ST.out.nB NC.out GB.out MC.out HVb.out).mono ?_
     rintro e_ W13 ⟨rfl, hq⟩
     refine ⟨_, rfl, ?_⟩
     replace NC := qd.mk (NC.out.keep (KeepT.of (KeepBut.of_below hq g none)))
     replace BC := qd.mk (qx BC.out hq)
     replace ST := qd.mk (ST.out.below hq)
     clear hq
     refine hK.out _ _ ⟨(qe ST.out.ba 0).trans rfl, (qe ST.out.ba 1).trans rfl, (qe ST.out.ba 2).trans rfl, (qe ST.out.bb 0).trans rfl, (qe ST.out.bb 1).trans rfl, (qe ST.out.bb 2).trans rfl, (qe BC.out 0).trans rfl, (qe BC.out 1).trans rfl, (qe BC.out 2).trans rfl⟩ (fun hHeld => ?_)
     clear hK K
     refine norm_ (a' := ?_) ?_ ?_
     rotate_left
     ·show Act.put _ (some 41) _ = _
      simp only [Act.put, List.setIfInBounds_toArray, List.set_cons_zero, List.set_cons_succ, zg, zi]
      rfl
     refine xf (i := 6) (N := (some 42)) (v := ?_) (a' := ?_) #[true, true, true, true, true, true, true] rfl rfl (xw HT_.out yg) (fun _ _ _ h => h) (Or.inl ⟨by rfl, ?_⟩) ?_ ?_
     rotate_left
     ·intro w'
      go_simp
      with_reducible rfl
     rotate_left
     ·simp only [Act.put, List.setIfInBounds_toArray, List.set_cons_zero, List.set_cons_succ, zg, zi]
      rfl
     refine done_ (done_of HT_.out yg) ?_
     clear hHeld BC NC
     go_wp2
     go_roundg k1
     case measure => omega
     case rel => exact ⟨i + 1, by first | rfl | rw [W1i.out], ⟨by have := hi.out; omega⟩, ST⟩
def xr.Pure : Prop := True
theorem xr.walk (P : xr.Pure) (a0 : Option Addr) (len0 cap0 : Nat) (z0 : List Int) (w : World) (hG : LibHeld w) (w0 : (a0 = none ∧ len0 = 0 ∧ cap0 = 0 ∧ z0 = []) ∨ ∃ x, a0 = some x ∧ len0 ≤ cap0 ∧ cap0 ≤ maxLen ∧ z0.length = cap0 ∧ (∀ i, i < z0.length → w.cell? (x.add i) = some (.int .i64 (z0.getD i 0))) ∧ ∀ n ∈ z0, (Lit.int .i64 n).wf = true) (y0 : len0 * 8 ≤ 140737488351232) :
  Calls Tryz.prog 8 #[.slice a0 len0 cap0] w fun e w' => e = .returned (.bool true) ∧ Below w.heap.size w w' := by
 obtain ⟨l0, rfl, hr0, hm0, hw0, hc0⟩ := ReadsInt.ofRowC w0
 exact samelaw_calls _ _ l0 w hG (Kd.C_of_reads (d := (0 : Int)) (h1 := fun _ => rfl) hr0) hc0 yo
end Go.Proofs.YtlamfnaoemingaaGreatDoor.C
namespace Go.Proofs.YtlamfnaoemingaaGreatDoor.Pure
open Go.Proofs.YtlamfnaoemingaaGreatDoor.C
theorem GnameSame : xr.Pure := trivial
end Go.Proofs.YtlamfnaoemingaaGreatDoor.Pure
end
section
namespace Go.Proofs.YtlamfnaoemingaaGreatDoorW.PrintWords
open Go.ChangeShapes Go.WideShapes
theorem sized_ints {H : Type} {enc : TypeId × Value → H} {P : Program} {W : World} {base : Nat} {spare : Nat → Bool} {held : Bool} {t e : TypeId} {k : IntKind} {a : Option Addr} {len cap : Nat} {d : DataW H} {ps : List MemPlace} {ts : List TypeId} {ds : List (DataW H)} {j : Nat}
  (hsz : (DataW.weightsEach P ts ds).all (· ≤ reachBytes) = true) (ht : ts[j]? = some t) (hd : ds[j]? = some d) (hu : P.underlying t = some (.slice e)) (he : P.underlying e = some (.int k)) (hc : P.cellsOf e = 1) {B : Nat} (hB : P.bytesOf e = B)
  (h : DataW.Trod enc P W base spare held t (.slice a len cap) d ps) : len * B ≤ 140737488351232 := by
 obtain ⟨fuel, hf⟩ := h
 rcases open_ints hu he hc hf with ⟨hcs, _⟩ | ⟨x, l, c, zs, hcs, _, hl, _, hz, hx, _, _⟩
 ·simp [Value.cells] at hcs
  obtain ⟨rfl, rfl, rfl⟩ := hcs
  simp
 ·simp [Value.cells] at hcs
  obtain ⟨rfl, rfl, rfl⟩ := hcs
  obtain ⟨hx, _⟩ := Prod.mk.inj hx
  subst hx
  have z := sized_slice hsz ht hd hu
  rw [hB] at z
  have hl2 : len ≤ zs.length := by
   rw [hz]
   split
   ·exact hl
   ·exact Nat.le_refl _
  have h1 : (lits (H := H) k (zs.take len)).length + (lits (H := H) k (zs.drop len)).length = zs.length := by
   simp [lits]
   omega
  rw [h1] at z
  exact Nat.le_trans (Nat.mul_le_mul_right _ hl2) z
end Go.Proofs.YtlamfnaoemingaaGreatDoorW.PrintWords
end
