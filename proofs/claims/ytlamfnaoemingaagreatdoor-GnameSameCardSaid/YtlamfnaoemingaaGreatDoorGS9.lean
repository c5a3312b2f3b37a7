/- Words, walks and plain laws that the claim rests on, gathered. -/
import Derived.Shelf.Strings.Builder1
import Derived.Shelf.Strings.Builder2
import Derived.Shelf.Strings.OnBuilder
import Derived.Shelf.Small.Bits
import Derived.Shelf.Small.Strs
import Derived.Shelf.Small.Wraps
import Derived.Shelf.Strings.BuilderF
import Derived.Shelf.Strings.BuilderK
import Derived.Shelf.Utf8.RuneCount
import Derived.Shelf.Strings.Builder2Cap
import Derived.Shelf.Strconv.Itoa0
import Derived.Shelf.Strings.Search1
import Derived.Shelf.Strings.Search2
import Derived.Shelf.Strings.Search3
import Derived.Shelf.Strings.Cut
import Derived.Shelf.Strings.Count
import Derived.Shelf.LaysM
import Derived.Shelf.Strings.Shaped
import Derived.Shelf.Sort.Plain
import Derived.Shelf.Strings.Prefix
import Derived.Shelf.Strings.Split
import Derived.Shelf.Strings.SplitShaped
import Derived.Shelf.Unicode.Decode
import Derived.Shelf.Strings.RuneCount
import Derived.Shelf.Strings.Explode
import Derived.Shelf.Unicode.DecodeSlow
import Derived.Shelf.Unicode.DecodeAny
import Derived.Shelf.Strings.BuilderCap
import Derived.Shelf.Slices.In.SortNone
import Derived.Shelf.Slices.In.SortNone2
import Derived.Test.YtlamfnaoemingaaGreatDoorProg
import Derived.Below
import Derived.Deep.Draws
import Derived.Deep.AppendLies
import Derived.Maps.AppendAt
import Derived.OwnWalk
import Derived.Laws.BytesArg
import Derived.Laws.MakeOwn
import Derived.Laws.OwnMore
import Derived.Deep.OwnRows
import Derived.Tactics
import Derived.Lib.ConvBytes
import Derived.Laws.Slices
import Derived.WalkKit
import Derived.KernelRfl
import Derived.RowKit3
import Derived.Deep.LoopGhost
import Derived.Deep.QuietTactic
import Derived.BigQuiet
import Derived.WideLaws
import Derived.Deep.DeepCutAuto
import Derived.Deep.CutBlock
import Derived.Deep.RegionHeld3
import Derived.Laws.Rows
import Derived.Lib.AppendStr
import Derived.ArgAppend
import Derived.Laws.IdiomCopy
import Derived.RowKit
import Derived.WalkSpells
import Derived.OrdersHeld
import Derived.Laws.BitsLemmas
import Derived.WalkLawsBesides
import Derived.Laws.StructEq
import Derived.Test.YtlamfnaoemingaaGreatDoorGS0
import Derived.Test.YtlamfnaoemingaaGreatDoorGS1
import Derived.Test.YtlamfnaoemingaaGreatDoorGS2
import Derived.Test.YtlamfnaoemingaaGreatDoorGS3
import Derived.Test.YtlamfnaoemingaaGreatDoorGS4
import Derived.Test.YtlamfnaoemingaaGreatDoorGS5
import Derived.Test.YtlamfnaoemingaaGreatDoorGS6
import Derived.Test.YtlamfnaoemingaaGreatDoorGS7
import Derived.Test.YtlamfnaoemingaaGreatDoorGS8
import Derived.Test.YtlamfnaoemingaaGreatDoorGSc
namespace Go.Proofs.YtlamfnaoemingaaGreatDoorW.PrintLast
end Go.Proofs.YtlamfnaoemingaaGreatDoorW.PrintLast
namespace Go.Proofs.YtlamfnaoemingaaGreatDoorW.PrintMore
end Go.Proofs.YtlamfnaoemingaaGreatDoorW.PrintMore
namespace Go.Proofs.YtlamfnaoemingaaGreatDoorW.PrintWords
end Go.Proofs.YtlamfnaoemingaaGreatDoorW.PrintWords
section
namespace Go.Proofs.YtlamfnaoemingaaGreatDoor.C
open Go.RowKit Go.Proofs.YtlamfnaoemingaaGreatDoorW.PrintWords Go.Proofs.YtlamfnaoemingaaGreatDoorW.PrintLast Go.Proofs.YtlamfnaoemingaaGreatDoorW.PrintMore
attribute [local go_sem] zw zx xe xd zn zp zy zz
set_option linter.unusedVariables false
set_option linter.unusedSimpArgs false
def xi.f (k : Nat) (a0_0 : Int) (a0_1 : ByteArray) (l0_2 : List (List (S83))) (a1_0 : Int) (a1_1 : ByteArray) (l1_2 : List (List (S83))) : Option (Bool) := if a0_0 = a1_0 then ((xj.f a0_0).bind fun t243 => (if t243 = 0 then ((qq.f k a0_1 a1_1).bind fun t244 => (some t244)) else (if t243 = 1 then ((xa.f k a0_1 a1_1).bind fun t245 => (some t245)) else (if t243 = 2 then ((qw.f k l0_2 l1_2).bind fun t246 => (some t246)) else (if t243 = 3 then ((qk.f k a0_1 a1_1).bind fun t247 => (some t247)) else (some false)))))) else (some false)
theorem xi.mono : ∀ a0 a1 a2 a3 a4 a5 k, LeO (xi.f k a0 a1 a2 a3 a4 a5) (xi.f (k + 1) a0 a1 a2 a3 a4 a5) := by
 intro a0 a1 a2 a3 a4 a5 k
 unfold xi.f
 repeat' first
   | (with_reducible exact qw.mono _ _ _)
   | (with_reducible exact qk.mono _ _ _)
   | (with_reducible exact xa.mono _ _ _)
   | (with_reducible exact qq.mono _ _ _)
   | (with_reducible exact LeO.refl _)
   | (with_reducible exact LeO.none _)
   | (with_reducible refine LeO.ite ?_ ?_)
   | (with_reducible refine LeO.bind ?_ (fun _ => ?_))
set_option maxHeartbeats 8000000 in
set_option maxRecDepth 100000 in
theorem xi.calls (k : Nat) (a0_0 : Int) (a0_1 : ByteArray) (A0_2 : Option Addr) (c0_2 : Nat) (l0_2 : List (List (S83))) (a1_0 : Int) (a1_1 : ByteArray) (A1_2 : Option Addr) (c1_2 : Nat) (l1_2 : List (List (S83))) (r : Bool) (w : World) (hG : LibHeld w) (hr0_2 : Kd.C (Kd.slice 83 k83) w A0_2 l0_2.length l0_2) (hc0_2 : l0_2.length ≤ c0_2) (hr1_2 : Kd.C (Kd.slice 83 k83) w A1_2 l1_2.length l1_2) (hc1_2 : l1_2.length ≤ c1_2) (h : xi.f k a0_0 a0_1 l0_2 a1_0 a1_1 l1_2 = some r) :
  Calls Tryz.prog 43 #[.agg #[.int .i64 a0_0, .string a0_1, .slice A0_2 l0_2.length c0_2], .agg #[.int .i64 a1_0, .string a1_1, .slice A1_2 l1_2.length c1_2]] w fun e w' => e = .returned (.bool r) ∧ Below w.heap.size w w' := by
 have hu32 := Tryz.underlying32
 have hu30 := Tryz.underlying30
 have HG := qd.mk hG
 clear hG
 have HR0_2 := qd.mk hr0_2
 have HC0_2 := qd.mk hc0_2
 clear hr0_2 hc0_2
 have HR1_2 := qd.mk hr1_2
 have HC1_2 := qd.mk hc1_2
 clear hr1_2 hc1_2
 have HB := qd.mk (Below.refl w.heap.size w)
 have H : (if a0_0 = a1_0 then ((xj.f a0_0).bind fun t243 => (if t243 = 0 then ((qq.f k a0_1 a1_1).bind fun t244 => (some t244)) else (if t243 = 1 then ((xa.f k a0_1 a1_1).bind fun t245 => (some t245)) else (if t243 = 2 then ((qw.f k l0_2 l1_2).bind fun t246 => (some t246)) else (if t243 = 3 then ((qk.f k a0_1 a1_1).bind fun t247 => (some t247)) else (some false)))))) else (some false)) = some r := h
 clear h
 by_cases c3 : a0_0 = a1_0
 ·rw [if_pos c3] at H
  have c3b0 : (a0_0 == a1_0) = true := beq_iff_eq.mpr c3
  have c3b1 : (a0_0 != a1_0) = false := bne_eq_false_iff_eq.mpr c3
  clear c3
  replace H := Option.bind_eq_some_iff.mp H
  obtain ⟨t243, A40, H⟩ := H
  replace H : (if t243 = 0 then ((qq.f k a0_1 a1_1).bind fun t244 => (some t244)) else (if t243 = 1 then ((xa.f k a0_1 a1_1).bind fun t245 => (some t245)) else (if t243 = 2 then ((qw.f k l0_2 l1_2).bind fun t246 => (some t246)) else (if t243 = 3 then ((qk.f k a0_1 a1_1).bind fun t247 => (some t247)) else (some false))))) = some r := H
  have A4 := qd.mk A40
  clear A40
  by_cases c5 : t243 = 0
  ·rw [if_pos c5] at H
   have c5b0 : (t243 == 0) = true := beq_iff_eq.mpr c5
   have c5b1 : (t243 != 0) = false := bne_eq_false_iff_eq.mpr c5
   clear c5
   replace H := Option.bind_eq_some_iff.mp H
   obtain ⟨t244, A60, H⟩ := H
   replace H : (some t244) = some r := H
   have A6 := qd.mk A60
   clear A60
   obtain rfl := Option.some.inj H
   go_enter Tryz.func43, Tryz.ntmps43
   go_wp2_with (first | ((with_reducible refine q8 (N := 2) rfl ?_); refine zh ?hg (N := 2) ?hd (cs := #[.int .i64 a0_0, .string a0_1, .slice A0_2 l0_2.length c0_2]) (t := 32) ?hr ?_; (case hd => rfl); (case hg => rfl); (case hr => first | (go_simp; done) | (go_simp; rfl)); intro gb241 hg w7 hbox hb; have n0_ := qd.mk (qf cu hb); have n1_ := qd.mk (hbox); have n2_ := qd.mk ((by rw [hg]; exact (qo cu) : w.heap.size ≤ gb241)); have n3_ := qd.mk ((by rw [hg]; exact (qo cu) : w.heap.size ≤ gb241)); clear HB; have HB := n0_; have BK241 := n1_; have GW241 := n2_; have GE241 := n3_; clear n0_ n1_ n2_ n3_; clear hb hbox hg) | ((with_reducible refine q8 (N := 3) rfl ?_); refine zh ?hg (N := 3) ?hd (cs := #[.int .i64 a1_0, .string a1_1, .slice A1_2 l1_2.length c1_2]) (t := 32) ?hr ?_; (case hd => rfl); (case hg => rfl); (case hr => first | (go_simp; done) | (go_simp; rfl)); intro gb242 hg w8 hbox hb; have n0_ := qd.mk (qx (g := gb241) (o := .cells #[.int .i64 a0_0, .string a0_1, .slice A0_2 l0_2.length c0_2] 32 (0, 0)) yn hb); have n1_ := qd.mk (qf yl hb); have n2_ := qd.mk (hbox); have n3_ := qd.mk ((by rw [hg]; exact (qo yl) : w.heap.size ≤ gb242)); have n4_ := qd.mk ((by rw [hg]; exact (qo yl) : w.heap.size ≤ gb242)); have n5_ := qd.mk ((by rw [hg]; exact Nat.ne_of_lt (zo (g := gb241) (o := .cells #[.int .i64 a0_0, .string a0_1, .slice A0_2 l0_2.length c0_2] 32 (0, 0)) yn) : gb241 ≠ gb242)); have n6_ := qd.mk ((by rw [hg]; exact Nat.ne_of_gt (zo (g := gb241) (o := .cells #[.int .i64 a0_0, .string a0_1, .slice A0_2 l0_2.length c0_2] 32 (0, 0)) yn) : gb242 ≠ gb241)); clear BK241; clear HB; have BK241 := n0_; have HB := n1_; have BK242 := n2_; have GW242 := n3_; have GE242 := n4_; have NB241_242 := n5_; have NB242_241 := n6_; clear n0_ n1_ n2_ n3_ n4_ n5_ n6_; clear hb hbox hg; have hnb9 := NB241_242.out; have hnc9 := NB242_241.out; have hcz10_0 : w8.cell? ⟨gb241, 0, none⟩ = some (.int .i64 a0_0) := (qe BK241.out 0).trans rfl; have hcz10_1 : w8.cell? ⟨gb241, 1, none⟩ = some (.string a0_1) := (qe BK241.out 1).trans rfl; have hcz10_2 : w8.cell? ⟨gb241, 2, none⟩ = some (.slice A0_2 l0_2.length c0_2) := (qe BK241.out 2).trans rfl; have hfz10_0 := qg BK241.out 0; have hfz10_1 := qg BK241.out 1; have hfz10_2 := qg BK241.out 2; have hcz11_0 : w8.cell? ⟨gb242, 0, none⟩ = some (.int .i64 a1_0) := (qe BK242.out 0).trans rfl; have hcz11_1 : w8.cell? ⟨gb242, 1, none⟩ = some (.string a1_1) := (qe BK242.out 1).trans rfl; have hcz11_2 : w8.cell? ⟨gb242, 2, none⟩ = some (.slice A1_2 l1_2.length c1_2) := (qe BK242.out 2).trans rfl; have hfz11_0 := qg BK242.out 0; have hfz11_1 := qg BK242.out 1; have hfz11_2 := qg BK242.out 2) | ((with_reducible refine qp (f := 65) rfl ?_); refine za (some 12) rfl rfl Tryz.func65 yg rfl #[.int .i64 a0_0] rfl cz ?_; (with_reducible refine (xj.calls a0_0 t243 _ A4.out).mono ?_); rintro e w' ⟨rfl, ⟨nd, rfl⟩⟩; refine ⟨_, rfl, ?_⟩) | ((with_reducible refine qp (f := 84) rfl ?_); refine za (some 19) rfl rfl Tryz.func84 yg rfl #[.string a0_1, .string a1_1] rfl cz ?_; (with_reducible refine (qq.calls k a0_1 a1_1 t244 _ ?side1 A6.out).mono ?_); (case side1 => exact LibHeld.below HG.out yt); rintro e w12 ⟨rfl, hb⟩; refine ⟨_, rfl, ?_⟩; have n0_ := qd.mk (qx (g := gb241) (o := .cells #[.int .i64 a0_0, .string a0_1, .slice A0_2 l0_2.length c0_2] 32 (0, 0)) yn hb); have n1_ := qd.mk (qx (g := gb242) (o := .cells #[.int .i64 a1_0, .string a1_1, .slice A1_2 l1_2.length c1_2] 32 (0, 0)) uj hb); have n2_ := qd.mk (qf yt hb); clear BK241; clear BK242; clear HB; have BK241 := n0_; have BK242 := n1_; have HB := n2_; clear n0_ n1_ n2_; (try clear hb); (try clear hb2); (try clear hk); (try clear hi)))
   go_ret
   exact ⟨by first | rfl | (simp [qi, qj] <;> rfl) | (simp [*, qi, qj] <;> rfl), by repeat (first | (with_reducible first | exact HB.out | apply qb | apply qa | apply qc | refine qh ?_ GE241.out | refine qh ?_ GE242.out) | exact HB.out)⟩
  ·rw [if_neg c5] at H
   have c5b0 : (t243 == 0) = false := beq_eq_false_iff_ne.mpr c5
   have c5b1 : (t243 != 0) = true := bne_iff_ne.mpr c5
   by_cases c13 : t243 = 1
   ·rw [if_pos c13] at H
    have c13b0 : (t243 == 1) = true := beq_iff_eq.mpr c13
    have c13b1 : (t243 != 1) = false := bne_eq_false_iff_eq.mpr c13
    clear c13
    replace H := Option.bind_eq_some_iff.mp H
    obtain ⟨t245, A140, H⟩ := H
    replace H : (some t245) = some r := H
    have A14 := qd.mk A140
    clear A140
    obtain rfl := Option.some.inj H
    go_enter Tryz.func43, Tryz.ntmps43
    go_wp2_with (first | ((with_reducible refine q8 (N := 2) rfl ?_); refine zh ?hg (N := 2) ?hd (cs := #[.int .i64 a0_0, .string a0_1, .slice A0_2 l0_2.length c0_2]) (t := 32) ?hr ?_; (case hd => rfl); (case hg => rfl); (case hr => first | (go_simp; done) | (go_simp; rfl)); intro gb241 hg w15 hbox hb; have n0_ := qd.mk (qf cu hb); have n1_ := qd.mk (hbox); have n2_ := qd.mk ((by rw [hg]; exact (qo cu) : w.heap.size ≤ gb241)); have n3_ := qd.mk ((by rw [hg]; exact (qo cu) : w.heap.size ≤ gb241)); clear HB; have HB := n0_; have BK241 := n1_; have GW241 := n2_; have GE241 := n3_; clear n0_ n1_ n2_ n3_; clear hb hbox hg) | ((with_reducible refine q8 (N := 3) rfl ?_); refine zh ?hg (N := 3) ?hd (cs := #[.int .i64 a1_0, .string a1_1, .slice A1_2 l1_2.length c1_2]) (t := 32) ?hr ?_; (case hd => rfl); (case hg => rfl); (case hr => first | (go_simp; done) | (go_simp; rfl)); intro gb242 hg w16 hbox hb; have n0_ := qd.mk (qx (g := gb241) (o := .cells #[.int .i64 a0_0, .string a0_1, .slice A0_2 l0_2.length c0_2] 32 (0, 0)) yn hb); have n1_ := qd.mk (qf yl hb); have n2_ := qd.mk (hbox); have n3_ := qd.mk ((by rw [hg]; exact (qo yl) : w.heap.size ≤ gb242)); have n4_ := qd.mk ((by rw [hg]; exact (qo yl) : w.heap.size ≤ gb242)); have n5_ := qd.mk ((by rw [hg]; exact Nat.ne_of_lt (zo (g := gb241) (o := .cells #[.int .i64 a0_0, .string a0_1, .slice A0_2 l0_2.length c0_2] 32 (0, 0)) yn) : gb241 ≠ gb242)); have n6_ := qd.mk ((by rw [hg]; exact Nat.ne_of_gt (zo (g := gb241) (o := .cells #[.int .i64 a0_0, .string a0_1, .slice A0_2 l0_2.length c0_2] 32 (0, 0)) yn) : gb242 ≠ gb241)); clear BK241; clear HB; have BK241 := n0_; have HB := n1_; have BK242 := n2_; have GW242 := n3_; have GE242 := n4_; have NB241_242 := n5_; have NB242_241 := n6_; clear n0_ n1_ n2_ n3_ n4_ n5_ n6_; clear hb hbox hg; have hnb17 := NB241_242.out; have hnc17 := NB242_241.out; have hcz18_0 : w16.cell? ⟨gb241, 0, none⟩ = some (.int .i64 a0_0) := (qe BK241.out 0).trans rfl; have hcz18_1 : w16.cell? ⟨gb241, 1, none⟩ = some (.string a0_1) := (qe BK241.out 1).trans rfl; have hcz18_2 : w16.cell? ⟨gb241, 2, none⟩ = some (.slice A0_2 l0_2.length c0_2) := (qe BK241.out 2).trans rfl; have hfz18_0 := qg BK241.out 0; have hfz18_1 := qg BK241.out 1; have hfz18_2 := qg BK241.out 2; have hcz19_0 : w16.cell? ⟨gb242, 0, none⟩ = some (.int .i64 a1_0) := (qe BK242.out 0).trans rfl; have hcz19_1 : w16.cell? ⟨gb242, 1, none⟩ = some (.string a1_1) := (qe BK242.out 1).trans rfl; have hcz19_2 : w16.cell? ⟨gb242, 2, none⟩ = some (.slice A1_2 l1_2.length c1_2) := (qe BK242.out 2).trans rfl; have hfz19_0 := qg BK242.out 0; have hfz19_1 := qg BK242.out 1; have hfz19_2 := qg BK242.out 2) | ((with_reducible refine qp (f := 65) rfl ?_); refine za (some 12) rfl rfl Tryz.func65 yg rfl #[.int .i64 a0_0] rfl cz ?_; (with_reducible refine (xj.calls a0_0 t243 _ A4.out).mono ?_); rintro e w' ⟨rfl, ⟨nd, rfl⟩⟩; refine ⟨_, rfl, ?_⟩) | ((with_reducible refine qp (f := 85) rfl ?_); refine za (some 26) rfl rfl Tryz.func85 yg rfl #[.string a0_1, .string a1_1] rfl cz ?_; (with_reducible refine (xa.calls k a0_1 a1_1 t245 _ ?side1 A14.out).mono ?_); (case side1 => exact LibHeld.below HG.out yt); rintro e w20 ⟨rfl, hb⟩; refine ⟨_, rfl, ?_⟩; have n0_ := qd.mk (qx (g := gb241) (o := .cells #[.int .i64 a0_0, .string a0_1, .slice A0_2 l0_2.length c0_2] 32 (0, 0)) yn hb); have n1_ := qd.mk (qx (g := gb242) (o := .cells #[.int .i64 a1_0, .string a1_1, .slice A1_2 l1_2.length c1_2] 32 (0, 0)) uj hb); have n2_ := qd.mk (qf yt hb); clear BK241; clear BK242; clear HB; have BK241 := n0_; have BK242 := n1_; have HB := n2_; clear n0_ n1_ n2_; (try clear hb); (try clear hb2); (try clear hk); (try clear hi)))
    go_ret
    exact ⟨by first | rfl | (simp [qi, qj] <;> rfl) | (simp [*, qi, qj] <;> rfl), by repeat (first | (with_reducible first | exact HB.out | apply qb | apply qa | apply qc | refine qh ?_ GE241.out | refine qh ?_ GE242.out) | exact HB.out)⟩
   ·rw [if_neg c13] at H
    have c13b0 : (t243 == 1) = false := beq_eq_false_iff_ne.mpr c13
    have c13b1 : (t243 != 1) = true := bne_iff_ne.mpr c13
    by_cases c21 : t243 = 2
    ·rw [if_pos c21] at H
     have c21b0 : (t243 == 2) = true := beq_iff_eq.mpr c21
     have c21b1 : (t243 != 2) = false := bne_eq_false_iff_eq.mpr c21
     clear c21
     replace H := Option.bind_eq_some_iff.mp H
     obtain ⟨t246, A220, H⟩ := H
     replace H : (some t246) = some r := H
     have A22 := qd.mk A220
     clear A220
     obtain rfl := Option.some.inj H
     go_enter Tryz.func43, Tryz.ntmps43
     go_wp2_with (first | ((with_reducible refine q8 (N := 2) rfl ?_); refine zh ?hg (N := 2) ?hd (cs := #[.int .i64 a0_0, .string a0_1, .slice A0_2 l0_2.length c0_2]) (t := 32) ?hr ?_; (case hd => rfl); (case hg => rfl); (case hr => first | (go_simp; done) | (go_simp; rfl)); intro gb241 hg w23 hbox hb; have n0_ := qd.mk (qf cu hb); have n1_ := qd.mk (hbox); have n2_ := qd.mk ((by rw [hg]; exact (qo cu) : w.heap.size ≤ gb241)); have n3_ := qd.mk ((by rw [hg]; exact (qo cu) : w.heap.size ≤ gb241)); clear HB; have HB := n0_; have BK241 := n1_; have GW241 := n2_; have GE241 := n3_; clear n0_ n1_ n2_ n3_; clear hb hbox hg) | ((with_reducible refine q8 (N := 3) rfl ?_); refine zh ?hg (N := 3) ?hd (cs := #[.int .i64 a1_0, .string a1_1, .slice A1_2 l1_2.length c1_2]) (t := 32) ?hr ?_; (case hd => rfl); (case hg => rfl); (case hr => first | (go_simp; done) | (go_simp; rfl)); intro gb242 hg w24 hbox hb; have n0_ := qd.mk (qx (g := gb241) (o := .cells #[.int .i64 a0_0, .string a0_1, .slice A0_2 l0_2.length c0_2] 32 (0, 0)) yn hb); have n1_ := qd.mk (qf yl hb); have n2_ := qd.mk (hbox); have n3_ := qd.mk ((by rw [hg]; exact (qo yl) : w.heap.size ≤ gb242)); have n4_ := qd.mk ((by rw [hg]; exact (qo yl) : w.heap.size ≤ gb242)); have n5_ := qd.mk ((by rw [hg]; exact Nat.ne_of_lt (zo (g := gb241) (o := .cells #[.int .i64 a0_0, .string a0_1, .slice A0_2 l0_2.length c0_2] 32 (0, 0)) yn) : gb241 ≠ gb242)); have n6_ := qd.mk ((by rw [hg]; exact Nat.ne_of_gt (zo (g := gb241) (o := .cells #[.int .i64 a0_0, .string a0_1, .slice A0_2 l0_2.length c0_2] 32 (0, 0)) yn) : gb242 ≠ gb241)); clear BK241; clear HB; have BK241 := n0_; have HB := n1_; have BK242 := n2_; have GW242 := n3_; have GE242 := n4_; have NB241_242 := n5_; have NB242_241 := n6_; clear n0_ n1_ n2_ n3_ n4_ n5_ n6_; clear hb hbox hg; have hnb25 := NB241_242.out; have hnc25 := NB242_241.out; have hcz26_0 : w24.cell? ⟨gb241, 0, none⟩ = some (.int .i64 a0_0) := (qe BK241.out 0).trans rfl; have hcz26_1 : w24.cell? ⟨gb241, 1, none⟩ = some (.string a0_1) := (qe BK241.out 1).trans rfl; have hcz26_2 : w24.cell? ⟨gb241, 2, none⟩ = some (.slice A0_2 l0_2.length c0_2) := (qe BK241.out 2).trans rfl; have hfz26_0 := qg BK241.out 0; have hfz26_1 := qg BK241.out 1; have hfz26_2 := qg BK241.out 2; have hcz27_0 : w24.cell? ⟨gb242, 0, none⟩ = some (.int .i64 a1_0) := (qe BK242.out 0).trans rfl; have hcz27_1 : w24.cell? ⟨gb242, 1, none⟩ = some (.string a1_1) := (qe BK242.out 1).trans rfl; have hcz27_2 : w24.cell? ⟨gb242, 2, none⟩ = some (.slice A1_2 l1_2.length c1_2) := (qe BK242.out 2).trans rfl; have hfz27_0 := qg BK242.out 0; have hfz27_1 := qg BK242.out 1; have hfz27_2 := qg BK242.out 2) | ((with_reducible refine qp (f := 65) rfl ?_); refine za (some 12) rfl rfl Tryz.func65 yg rfl #[.int .i64 a0_0] rfl cz ?_; (with_reducible refine (xj.calls a0_0 t243 _ A4.out).mono ?_); rintro e w' ⟨rfl, ⟨nd, rfl⟩⟩; refine ⟨_, rfl, ?_⟩) | ((with_reducible refine qp (f := 86) rfl ?_); refine za (some 33) rfl rfl Tryz.func86 yg rfl #[.agg #[.slice A0_2 l0_2.length c0_2], .agg #[.slice A1_2 l1_2.length c1_2]] rfl cz ?_; (with_reducible refine (qw.calls k _ _ l0_2 _ _ l1_2 t246 _ ?side1 ?side2 ?side3 ?side4 A22.out).mono ?_); (case side1 => repeat (first | exact (Kd.xh HR0_2.out yt) | (with_reducible refine Kd.xm ?_ _) | (with_reducible refine Kd.xl ?_ _) | (with_reducible refine Kd.xx ?_))); (case side2 => exact HC0_2.out); (case side3 => repeat (first | exact (Kd.xh HR1_2.out yt) | (with_reducible refine Kd.xm ?_ _) | (with_reducible refine Kd.xl ?_ _) | (with_reducible refine Kd.xx ?_))); (case side4 => exact HC1_2.out); rintro e w28 ⟨rfl, hb⟩; refine ⟨_, rfl, ?_⟩; have n0_ := qd.mk (qx (g := gb241) (o := .cells #[.int .i64 a0_0, .string a0_1, .slice A0_2 l0_2.length c0_2] 32 (0, 0)) yn hb); have n1_ := qd.mk (qx (g := gb242) (o := .cells #[.int .i64 a1_0, .string a1_1, .slice A1_2 l1_2.length c1_2] 32 (0, 0)) uj hb); have n2_ := qd.mk (qf yt hb); clear BK241; clear BK242; clear HB; have BK241 := n0_; have BK242 := n1_; have HB := n2_; clear n0_ n1_ n2_; (try clear hb); (try clear hb2); (try clear hk); (try clear hi)))
     go_ret
     exact ⟨by first | rfl | (simp [qi, qj] <;> rfl) | (simp [*, qi, qj] <;> rfl), by repeat (first | (with_reducible first | exact HB.out | apply qb | apply qa | apply qc | refine qh ?_ GE241.out | refine qh ?_ GE242.out) | exact HB.out)⟩
    ·rw [if_neg c21] at H
     have c21b0 : (t243 == 2) = false := beq_eq_false_iff_ne.mpr c21
     have c21b1 : (t243 != 2) = true := bne_iff_ne.mpr c21
     by_cases c29 : t243 = 3
     ·rw [if_pos c29] at H
      have c29b0 : (t243 == 3) = true := beq_iff_eq.mpr c29
      have c29b1 : (t243 != 3) = false := bne_eq_false_iff_eq.mpr c29
      clear c29
      replace H := Option.bind_eq_some_iff.mp H
      obtain ⟨t247, A300, H⟩ := H
      replace H : (some t247) = some r := H
      have A30 := qd.mk A300
      clear A300
      obtain rfl := Option.some.inj H
      go_enter Tryz.func43, Tryz.ntmps43
      go_wp2_with (first | ((with_reducible refine q8 (N := 2) rfl ?_); refine zh ?hg (N := 2) ?hd (cs := #[.int .i64 a0_0, .string a0_1, .slice A0_2 l0_2.length c0_2]) (t := 32) ?hr ?_; (case hd => rfl); (case hg => rfl); (case hr => first | (go_simp; done) | (go_simp; rfl)); intro gb241 hg w31 hbox hb; have n0_ := qd.mk (qf cu hb); have n1_ := qd.mk (hbox); have n2_ := qd.mk ((by rw [hg]; exact (qo cu) : w.heap.size ≤ gb241)); have n3_ := qd.mk ((by rw [hg]; exact (qo cu) : w.heap.size ≤ gb241)); clear HB; have HB := n0_; have BK241 := n1_; have GW241 := n2_; have GE241 := n3_; clear n0_ n1_ n2_ n3_; clear hb hbox hg) | ((with_reducible refine q8 (N := 3) rfl ?_); refine zh ?hg (N := 3) ?hd (cs := #[.int .i64 a1_0, .string a1_1, .slice A1_2 l1_2.length c1_2]) (t := 32) ?hr ?_; (case hd => rfl); (case hg => rfl); (case hr => first | (go_simp; done) | (go_simp; rfl)); intro gb242 hg w32 hbox hb; have n0_ := qd.mk (qx (g := gb241) (o := .cells #[.int .i64 a0_0, .string a0_1, .slice A0_2 l0_2.length c0_2] 32 (0, 0)) yn hb); have n1_ := qd.mk (qf yl hb); have n2_ := qd.mk (hbox); have n3_ := qd.mk ((by rw [hg]; exact (qo yl) : w.heap.size ≤ gb242)); have n4_ := qd.mk ((by rw [hg]; exact (qo yl) : w.heap.size ≤ gb242)); have n5_ := qd.mk ((by rw [hg]; exact Nat.ne_of_lt (zo (g := gb241) (o := .cells #[.int .i64 a0_0, .string a0_1, .slice A0_2 l0_2.length c0_2] 32 (0, 0)) yn) : gb241 ≠ gb242)); have n6_ := qd.mk ((by rw [hg]; exact Nat.ne_of_gt (zo (g := gb241) (o := .cells #[.int .i64 a0_0, .string a0_1, .slice A0_2 l0_2.length c0_2] 32 (0, 0)) yn) : gb242 ≠ gb241)); clear BK241; clear HB; have BK241 := n0_; have HB := n1_; have BK242 := n2_; have GW242 := n3_; have GE242 := n4_; have NB241_242 := n5_; have NB242_241 := n6_; clear n0_ n1_ n2_ n3_ n4_ n5_ n6_; clear hb hbox hg; have hnb33 := NB241_242.out; have hnc33 := NB242_241.out; have hcz34_0 : w32.cell? ⟨gb241, 0, none⟩ = some (.int .i64 a0_0) := (qe BK241.out 0).trans rfl; have hcz34_1 : w32.cell? ⟨gb241, 1, none⟩ = some (.string a0_1) := (qe BK241.out 1).trans rfl; have hcz34_2 : w32.cell? ⟨gb241, 2, none⟩ = some (.slice A0_2 l0_2.length c0_2) := (qe BK241.out 2).trans rfl; have hfz34_0 := qg BK241.out 0; have hfz34_1 := qg BK241.out 1; have hfz34_2 := qg BK241.out 2; have hcz35_0 : w32.cell? ⟨gb242, 0, none⟩ = some (.int .i64 a1_0) := (qe BK242.out 0).trans rfl; have hcz35_1 : w32.cell? ⟨gb242, 1, none⟩ = some (.string a1_1) := (qe BK242.out 1).trans rfl; have hcz35_2 : w32.cell? ⟨gb242, 2, none⟩ = some (.slice A1_2 l1_2.length c1_2) := (qe BK242.out 2).trans rfl; have hfz35_0 := qg BK242.out 0; have hfz35_1 := qg BK242.out 1; have hfz35_2 := qg BK242.out 2) | ((with_reducible refine qp (f := 65) rfl ?_); refine za (some 12) rfl rfl Tryz.func65 yg rfl #[.int .i64 a0_0] rfl cz ?_; (with_reducible refine (xj.calls a0_0 t243 _ A4.out).mono ?_); rintro e w' ⟨rfl, ⟨nd, rfl⟩⟩; refine ⟨_, rfl, ?_⟩) | ((with_reducible refine qp (f := 87) rfl ?_); refine za (some 40) rfl rfl Tryz.func87 yg rfl #[.string a0_1, .string a1_1] rfl cz ?_; (with_reducible refine (qk.calls k a0_1 a1_1 t247 _ A30.out).mono ?_); rintro e w36 ⟨rfl, hb⟩; refine ⟨_, rfl, ?_⟩; have n0_ := qd.mk (qx (g := gb241) (o := .cells #[.int .i64 a0_0, .string a0_1, .slice A0_2 l0_2.length c0_2] 32 (0, 0)) yn hb); have n1_ := qd.mk (qx (g := gb242) (o := .cells #[.int .i64 a1_0, .string a1_1, .slice A1_2 l1_2.length c1_2] 32 (0, 0)) uj hb); have n2_ := qd.mk (qf yt hb); clear BK241; clear BK242; clear HB; have BK241 := n0_; have BK242 := n1_; have HB := n2_; clear n0_ n1_ n2_; (try clear hb); (try clear hb2); (try clear hk); (try clear hi)))
      go_ret
      exact ⟨by first | rfl | (simp [qi, qj] <;> rfl) | (simp [*, qi, qj] <;> rfl), by repeat (first | (with_reducible first | exact HB.out | apply qb | apply qa | apply qc | refine qh ?_ GE241.out | refine qh ?_ GE242.out) | exact HB.out)⟩
     ·rw [if_neg c29] at H
      have c29b0 : (t243 == 3) = false := beq_eq_false_iff_ne.mpr c29
      have c29b1 : (t243 != 3) = true := bne_iff_ne.mpr c29
      obtain rfl := Option.some.inj H
      go_enter Tryz.func43, Tryz.ntmps43
      go_wp2_with (first | ((with_reducible refine q8 (N := 2) rfl ?_); refine zh ?hg (N := 2) ?hd (cs := #[.int .i64 a0_0, .string a0_1, .slice A0_2 l0_2.length c0_2]) (t := 32) ?hr ?_; (case hd => rfl); (case hg => rfl); (case hr => first | (go_simp; done) | (go_simp; rfl)); intro gb241 hg w37 hbox hb; have n0_ := qd.mk (qf cu hb); have n1_ := qd.mk (hbox); have n2_ := qd.mk ((by rw [hg]; exact (qo cu) : w.heap.size ≤ gb241)); have n3_ := qd.mk ((by rw [hg]; exact (qo cu) : w.heap.size ≤ gb241)); clear HB; have HB := n0_; have BK241 := n1_; have GW241 := n2_; have GE241 := n3_; clear n0_ n1_ n2_ n3_; clear hb hbox hg) | ((with_reducible refine q8 (N := 3) rfl ?_); refine zh ?hg (N := 3) ?hd (cs := #[.int .i64 a1_0, .string a1_1, .slice A1_2 l1_2.length c1_2]) (t := 32) ?hr ?_; (case hd => rfl); (case hg => rfl); (case hr => first | (go_simp; done) | (go_simp; rfl)); intro gb242 hg w38 hbox hb; have n0_ := qd.mk (qx (g := gb241) (o := .cells #[.int .i64 a0_0, .string a0_1, .slice A0_2 l0_2.length c0_2] 32 (0, 0)) yn hb); have n1_ := qd.mk (qf yl hb); have n2_ := qd.mk (hbox); have n3_ := qd.mk ((by rw [hg]; exact (qo yl) : w.heap.size ≤ gb242)); have n4_ := qd.mk ((by rw [hg]; exact (qo yl) : w.heap.size ≤ gb242)); have n5_ := qd.mk ((by rw [hg]; exact Nat.ne_of_lt (zo (g := gb241) (o := .cells #[.int .i64 a0_0, .string a0_1, .slice A0_2 l0_2.length c0_2] 32 (0, 0)) yn) : gb241 ≠ gb242)); have n6_ := qd.mk ((by rw [hg]; exact Nat.ne_of_gt (zo (g := gb241) (o := .cells #[.int .i64 a0_0, .string a0_1, .slice A0_2 l0_2.length c0_2] 32 (0, 0)) yn) : gb242 ≠ gb241)); clear BK241; clear HB; have BK241 := n0_; have HB := n1_; have BK242 := n2_; have GW242 := n3_; have GE242 := n4_; have NB241_242 := n5_; have NB242_241 := n6_; clear n0_ n1_ n2_ n3_ n4_ n5_ n6_; clear hb hbox hg; have hnb39 := NB241_242.out; have hnc39 := NB242_241.out; have hcz40_0 : w38.cell? ⟨gb241, 0, none⟩ = some (.int .i64 a0_0) := (qe BK241.out 0).trans rfl; have hcz40_1 : w38.cell? ⟨gb241, 1, none⟩ = some (.string a0_1) := (qe BK241.out 1).trans rfl; have hcz40_2 : w38.cell? ⟨gb241, 2, none⟩ = some (.slice A0_2 l0_2.length c0_2) := (qe BK241.out 2).trans rfl; have hfz40_0 := qg BK241.out 0; have hfz40_1 := qg BK241.out 1; have hfz40_2 := qg BK241.out 2; have hcz41_0 : w38.cell? ⟨gb242, 0, none⟩ = some (.int .i64 a1_0) := (qe BK242.out 0).trans rfl; have hcz41_1 : w38.cell? ⟨gb242, 1, none⟩ = some (.string a1_1) := (qe BK242.out 1).trans rfl; have hcz41_2 : w38.cell? ⟨gb242, 2, none⟩ = some (.slice A1_2 l1_2.length c1_2) := (qe BK242.out 2).trans rfl; have hfz41_0 := qg BK242.out 0; have hfz41_1 := qg BK242.out 1; have hfz41_2 := qg BK242.out 2) | ((with_reducible refine qp (f := 65) rfl ?_); refine za (some 12) rfl rfl Tryz.func65 yg rfl #[.int .i64 a0_0] rfl cz ?_; (with_reducible refine (xj.calls a0_0 t243 _ A4.out).mono ?_); rintro e w' ⟨rfl, ⟨nd, rfl⟩⟩; refine ⟨_, rfl, ?_⟩))
      go_ret
      exact ⟨by first | rfl | (simp [qi, qj] <;> rfl) | (simp [*, qi, qj] <;> rfl), by repeat (first | (with_reducible first | exact HB.out | apply qb | apply qa | apply qc | refine qh ?_ GE241.out | refine qh ?_ GE242.out) | exact HB.out)⟩
 ·rw [if_neg c3] at H
  have c3b0 : (a0_0 == a1_0) = false := beq_eq_false_iff_ne.mpr c3
  have c3b1 : (a0_0 != a1_0) = true := bne_iff_ne.mpr c3
  obtain rfl := Option.some.inj H
  go_enter Tryz.func43, Tryz.ntmps43
  go_wp2_with (first | ((with_reducible refine q8 (N := 2) rfl ?_); refine zh ?hg (N := 2) ?hd (cs := #[.int .i64 a0_0, .string a0_1, .slice A0_2 l0_2.length c0_2]) (t := 32) ?hr ?_; (case hd => rfl); (case hg => rfl); (case hr => first | (go_simp; done) | (go_simp; rfl)); intro gb241 hg w42 hbox hb; have n0_ := qd.mk (qf cu hb); have n1_ := qd.mk (hbox); have n2_ := qd.mk ((by rw [hg]; exact (qo cu) : w.heap.size ≤ gb241)); have n3_ := qd.mk ((by rw [hg]; exact (qo cu) : w.heap.size ≤ gb241)); clear HB; have HB := n0_; have BK241 := n1_; have GW241 := n2_; have GE241 := n3_; clear n0_ n1_ n2_ n3_; clear hb hbox hg) | ((with_reducible refine q8 (N := 3) rfl ?_); refine zh ?hg (N := 3) ?hd (cs := #[.int .i64 a1_0, .string a1_1, .slice A1_2 l1_2.length c1_2]) (t := 32) ?hr ?_; (case hd => rfl); (case hg => rfl); (case hr => first | (go_simp; done) | (go_simp; rfl)); intro gb242 hg w43 hbox hb; have n0_ := qd.mk (qx (g := gb241) (o := .cells #[.int .i64 a0_0, .string a0_1, .slice A0_2 l0_2.length c0_2] 32 (0, 0)) yn hb); have n1_ := qd.mk (qf yl hb); have n2_ := qd.mk (hbox); have n3_ := qd.mk ((by rw [hg]; exact (qo yl) : w.heap.size ≤ gb242)); have n4_ := qd.mk ((by rw [hg]; exact (qo yl) : w.heap.size ≤ gb242)); have n5_ := qd.mk ((by rw [hg]; exact Nat.ne_of_lt (zo (g := gb241) (o := .cells #[.int .i64 a0_0, .string a0_1, .slice A0_2 l0_2.length c0_2] 32 (0, 0)) yn) : gb241 ≠ gb242)); have n6_ := qd.mk ((by rw [hg]; exact Nat.ne_of_gt (zo (g := gb241) (o := .cells #[.int .i64 a0_0, .string a0_1, .slice A0_2 l0_2.length c0_2] 32 (0, 0)) yn) : gb242 ≠ gb241)); clear BK241; clear HB; have BK241 := n0_; have HB := n1_; have BK242 := n2_; have GW242 := n3_; have GE242 := n4_; have NB241_242 := n5_; have NB242_241 := n6_; clear n0_ n1_ n2_ n3_ n4_ n5_ n6_; clear hb hbox hg; have hnb44 := NB241_242.out; have hnc44 := NB242_241.out; have hcz45_0 : w43.cell? ⟨gb241, 0, none⟩ = some (.int .i64 a0_0) := (qe BK241.out 0).trans rfl; have hcz45_1 : w43.cell? ⟨gb241, 1, none⟩ = some (.string a0_1) := (qe BK241.out 1).trans rfl; have hcz45_2 : w43.cell? ⟨gb241, 2, none⟩ = some (.slice A0_2 l0_2.length c0_2) := (qe BK241.out 2).trans rfl; have hfz45_0 := qg BK241.out 0; have hfz45_1 := qg BK241.out 1; have hfz45_2 := qg BK241.out 2; have hcz46_0 : w43.cell? ⟨gb242, 0, none⟩ = some (.int .i64 a1_0) := (qe BK242.out 0).trans rfl; have hcz46_1 : w43.cell? ⟨gb242, 1, none⟩ = some (.string a1_1) := (qe BK242.out 1).trans rfl; have hcz46_2 : w43.cell? ⟨gb242, 2, none⟩ = some (.slice A1_2 l1_2.length c1_2) := (qe BK242.out 2).trans rfl; have hfz46_0 := qg BK242.out 0; have hfz46_1 := qg BK242.out 1; have hfz46_2 := qg BK242.out 2))
  go_ret
  exact ⟨by first | rfl | (simp [qi, qj] <;> rfl) | (simp [*, qi, qj] <;> rfl), by repeat (first | (with_reducible first | exact HB.out | apply qb | apply qa | apply qc | refine qh ?_ GE241.out | refine qh ?_ GE242.out) | exact HB.out)⟩
def q5.j0 : Nat → ByteArray → ByteArray → Bool → Option (Bool)
 | 0, _, _, _ => none
 | k + 1, x0, x1, x17 => if x17 = true then (some false) else ((zb.f x0 x1).bind fun t250 => (if t250 = true then (some true) else ((strings_CutPrefix.f x0 (⟨#[42, 46]⟩ : ByteArray)).bind fun bt251 => ((strings_Cut.f x1 (⟨#[46]⟩ : ByteArray)).bind fun bt253 => (if bt251.2 = true then (if bt253.2.2 = true then ((zb.f bt253.2.1 bt251.1).bind fun t256 => (some t256)) else (some false)) else (some false))))))
def q5.f (k : Nat) (a0 : ByteArray) (a1 : ByteArray) : Option (Bool) := (zf.f k a0).bind fun t248 => (if t248 = true then ((q3.f k a1).bind fun t249 => (q5.j0 k a0 a1 (!t249))) else (q5.j0 k a0 a1 true))
theorem q5.zv : ∀ k, (∀ y0 y1 y2, LeO (q5.j0 k y0 y1 y2) (q5.j0 (k + 1) y0 y1 y2))
 | 0 => fun _ _ _ r h => by simp [q5.j0] at h
 | k + 1 => by
  have ih0 := q5.zv k
  ·intro y0 y1 y2
   unfold q5.j0
   repeat' first
   | (with_reducible exact ih0 _ _ _)
   | (with_reducible exact q3.mono _ _)
   | (with_reducible exact zf.mono _ _)
   | (with_reducible exact LeO.refl _)
   | (with_reducible exact LeO.none _)
   | (with_reducible refine LeO.ite ?_ ?_)
   | (with_reducible refine LeO.bind ?_ (fun _ => ?_))
theorem q5.mono : ∀ a0 a1 k, LeO (q5.f k a0 a1) (q5.f (k + 1) a0 a1) := by
 intro a0 a1 k
 have ih0 := q5.zv k
 unfold q5.f
 repeat' first
   | (with_reducible exact ih0 _ _ _)
   | (with_reducible exact q3.mono _ _)
   | (with_reducible exact zf.mono _ _)
   | (with_reducible exact LeO.refl _)
   | (with_reducible exact LeO.none _)
   | (with_reducible refine LeO.ite ?_ ?_)
   | (with_reducible refine LeO.bind ?_ (fun _ => ?_))
set_option maxHeartbeats 8000000 in
set_option maxRecDepth 100000 in
theorem q5.calls (k : Nat) (a0 : ByteArray) (a1 : ByteArray) (r : Bool) (w : World) (hG : LibHeld w) (h : q5.f k a0 a1 = some r) :
  Calls Tryz.prog 82 #[.string a0, .string a1] w fun e w' => e = .returned (.bool r) ∧ Below w.heap.size w w' := by
 have HG := qd.mk hG
 clear hG
 have HB := qd.mk (Below.refl w.heap.size w)
 have H : ((zf.f k a0).bind fun t248 => (if t248 = true then ((q3.f k a1).bind fun t249 => (q5.j0 k a0 a1 (!t249))) else (q5.j0 k a0 a1 true))) = some r := h
 clear h
 have HC3 := qd.mk H
 clear H
 go_enter Tryz.func82, Tryz.ntmps82
 go_upto_region 1 with (fail)
 go_cut [17] (fun v17 wc => ∃ (kq : Nat) (x17_2 : Bool), v17 = .bool x17_2 ∧ qd (q5.j0 kq a0 a1 x17_2 = some r) ∧ qd (kq ≤ k) ∧ qd (Below w.heap.size w wc))
 case first =>
  have H := HC3.out
  clear HC3
  replace H := Option.bind_eq_some_iff.mp H
  obtain ⟨t248, A40, H⟩ := H
  replace H : (if t248 = true then ((q3.f k a1).bind fun t249 => (q5.j0 k a0 a1 (!t249))) else (q5.j0 k a0 a1 true)) = some r := H
  have A4 := qd.mk A40
  clear A40
  by_cases c5 : t248 = true
  ·subst c5
   have H1 : ((q3.f k a1).bind fun t249 => (q5.j0 k a0 a1 (!t249))) = some r := by rw [if_pos rfl] at H; exact H
   clear H
   have H := H1
   clear H1
   replace H := Option.bind_eq_some_iff.mp H
   obtain ⟨t249, A60, H⟩ := H
   replace H : (q5.j0 k a0 a1 (!t249)) = some r := H
   have A6 := qd.mk A60
   clear A60
   have H' := qd.mk H
   clear H
   go_wp2_with (first | ((with_reducible refine qp (f := 107) rfl ?_); refine za (some 11) rfl rfl Tryz.func107 yg rfl #[.string a0] rfl cz ?_; (with_reducible refine (zf.calls k a0 true _ ?side1 A4.out).mono ?_); (case side1 => exact LibHeld.below HG.out cu); rintro e w7 ⟨rfl, hb⟩; refine ⟨_, rfl, ?_⟩; have n0_ := qd.mk (qf cu hb); clear HB; have HB := n0_; clear n0_; (try clear hb); (try clear hb2); (try clear hk); (try clear hi)) | (go_at_call 116; (with_reducible refine (q3.calls k a1 t249 _ ?side1 A6.out).mono ?_); (case side1 => exact LibHeld.below HG.out cu); rintro e w8 ⟨rfl, hb⟩; have n0_ := qd.mk (qf cu hb); clear HB; have HB := n0_; clear n0_; (try clear hb); (try clear hb2); (try clear hk); (try clear hi)))
   go_meet
   case rel => exact ⟨_, (!t249), yf, H', ⟨by first | omega | exact Nat.le_refl _⟩, ⟨by repeat (first | (with_reducible first | exact HB.out | apply qb | apply qa | apply qc) | exact HB.out)⟩⟩
  ·replace c5 := Bool.eq_false_iff.mpr c5
   subst c5
   have H1 : (q5.j0 k a0 a1 true) = some r := by rw [if_neg (show ¬ (false = true) by decide)] at H; exact H
   clear H
   have H := H1
   clear H1
   have H' := qd.mk H
   clear H
   go_wp2_with (first | ((with_reducible refine qp (f := 107) rfl ?_); refine za (some 11) rfl rfl Tryz.func107 yg rfl #[.string a0] rfl cz ?_; (with_reducible refine (zf.calls k a0 false _ ?side1 A4.out).mono ?_); (case side1 => exact LibHeld.below HG.out cu); rintro e w9 ⟨rfl, hb⟩; refine ⟨_, rfl, ?_⟩; have n0_ := qd.mk (qf cu hb); clear HB; have HB := n0_; clear n0_; (try clear hb); (try clear hb2); (try clear hk); (try clear hi)))
   go_meet
   case rel => exact ⟨_, (true), yf, H', ⟨by first | omega | exact Nat.le_refl _⟩, ⟨by repeat (first | (with_reducible first | exact HB.out | apply qb | apply qa | apply qc) | exact HB.out)⟩⟩
 case rest =>
  clear HC3
  (try clear c1); (try clear p2); (try clear c5); try clear c8
  obtain ⟨kq, x17_2, rfl, HA, HJ2, HB⟩ := hcut
  cases kq with
  | zero => exact absurd HA.out (by simp [q5.j0])
  | succ kj2 =>
   have H := HA.out
   clear HA
   simp only [q5.j0] at H
   by_cases c10 : x17_2 = true
   ·subst c10
    have H1 : (some false) = some r := by rw [if_pos rfl] at H; exact H
    clear H
    have H := H1
    clear H1
    obtain rfl := Option.some.inj H
    go_wp2
    go_ret
    exact ⟨by first | rfl | (simp [qi, qj] <;> rfl) | (simp [*, qi, qj] <;> rfl), by repeat (first | (with_reducible first | exact HB.out | apply qb | apply qa | apply qc) | exact HB.out)⟩
   ·replace c10 := Bool.eq_false_iff.mpr c10
    subst c10
    have H1 : ((zb.f a0 a1).bind fun t250 => (if t250 = true then (some true) else ((strings_CutPrefix.f a0 (⟨#[42, 46]⟩ : ByteArray)).bind fun bt251 => ((strings_Cut.f a1 (⟨#[46]⟩ : ByteArray)).bind fun bt253 => (if bt251.2 = true then (if bt253.2.2 = true then ((zb.f bt253.2.1 bt251.1).bind fun t256 => (some t256)) else (some false)) else (some false)))))) = some r := by rw [if_neg (show ¬ (false = true) by decide)] at H; exact H
    clear H
    have H := H1
    clear H1
    replace H := Option.bind_eq_some_iff.mp H
    obtain ⟨t250, A110, H⟩ := H
    replace H : (if t250 = true then (some true) else ((strings_CutPrefix.f a0 (⟨#[42, 46]⟩ : ByteArray)).bind fun bt251 => ((strings_Cut.f a1 (⟨#[46]⟩ : ByteArray)).bind fun bt253 => (if bt251.2 = true then (if bt253.2.2 = true then ((zb.f bt253.2.1 bt251.1).bind fun t256 => (some t256)) else (some false)) else (some false))))) = some r := H
    have A11 := qd.mk A110
    clear A110
    by_cases c12 : t250 = true
    ·subst c12
     have H1 : (some true) = some r := by rw [if_pos rfl] at H; exact H
     clear H
     have H := H1
     clear H1
     obtain rfl := Option.some.inj H
     go_wp2_with (first | ((with_reducible refine qp (f := 117) rfl ?_); refine za (some 20) rfl rfl Tryz.func117 yg rfl #[.string a0, .string a1] rfl cz ?_; (with_reducible refine (zb.calls a0 a1 true _ A11.out).mono ?_); rintro e w13 ⟨rfl, hb⟩; refine ⟨_, rfl, ?_⟩; have n0_ := qd.mk (qf cu hb); clear HB; have HB := n0_; clear n0_; (try clear hb); (try clear hb2); (try clear hk); (try clear hi)))
     go_ret
     exact ⟨by first | rfl | (simp [qi, qj] <;> rfl) | (simp [*, qi, qj] <;> rfl), by repeat (first | (with_reducible first | exact HB.out | apply qb | apply qa | apply qc) | exact HB.out)⟩
    ·replace c12 := Bool.eq_false_iff.mpr c12
     subst c12
     have H1 : ((strings_CutPrefix.f a0 (⟨#[42, 46]⟩ : ByteArray)).bind fun bt251 => ((strings_Cut.f a1 (⟨#[46]⟩ : ByteArray)).bind fun bt253 => (if bt251.2 = true then (if bt253.2.2 = true then ((zb.f bt253.2.1 bt251.1).bind fun t256 => (some t256)) else (some false)) else (some false)))) = some r := by rw [if_neg (show ¬ (false = true) by decide)] at H; exact H
     clear H
     have H := H1
     clear H1
     replace H := Option.bind_eq_some_iff.mp H
     obtain ⟨⟨t251, t252⟩, A140, H⟩ := H
     replace H : ((strings_Cut.f a1 (⟨#[46]⟩ : ByteArray)).bind fun bt253 => (if t252 = true then (if bt253.2.2 = true then ((zb.f bt253.2.1 t251).bind fun t256 => (some t256)) else (some false)) else (some false))) = some r := H
     have A14 := qd.mk A140
     clear A140
     replace H := Option.bind_eq_some_iff.mp H
     obtain ⟨⟨t253, t254, t255⟩, A150, H⟩ := H
     replace H : (if t252 = true then (if t255 = true then ((zb.f t254 t251).bind fun t256 => (some t256)) else (some false)) else (some false)) = some r := H
     have A15 := qd.mk A150
     clear A150
     by_cases c16 : t252 = true
     ·subst c16
      have H1 : (if t255 = true then ((zb.f t254 t251).bind fun t256 => (some t256)) else (some false)) = some r := by rw [if_pos rfl] at H; exact H
      clear H
      have H := H1
      clear H1
      by_cases c17 : t255 = true
      ·subst c17
       have H1 : ((zb.f t254 t251).bind fun t256 => (some t256)) = some r := by rw [if_pos rfl] at H; exact H
       clear H
       have H := H1
       clear H1
       replace H := Option.bind_eq_some_iff.mp H
       obtain ⟨t256, A180, H⟩ := H
       replace H : (some t256) = some r := H
       have A18 := qd.mk A180
       clear A180
       obtain rfl := Option.some.inj H
       go_wp2_with (first | ((with_reducible refine qp (f := 117) rfl ?_); refine za (some 20) rfl rfl Tryz.func117 yg rfl #[.string a0, .string a1] rfl cz ?_; (with_reducible refine (zb.calls a0 a1 false _ A11.out).mono ?_); rintro e w19 ⟨rfl, hb⟩; refine ⟨_, rfl, ?_⟩; have n0_ := qd.mk (qf cu hb); clear HB; have HB := n0_; clear n0_; (try clear hb); (try clear hb2); (try clear hk); (try clear hi)) | ((with_reducible refine qp (f := 118) rfl ?_); refine za (some 23) rfl rfl Tryz.func118 yg rfl #[.string a0, .string (⟨#[42, 46]⟩ : ByteArray)] rfl cz ?_; (with_reducible refine (strings_CutPrefix.calls a0 (⟨#[42, 46]⟩ : ByteArray) t251 true _ A14.out).mono ?_); rintro e w' ⟨rfl, ⟨nd, rfl⟩⟩; refine ⟨_, rfl, ?_⟩) | ((with_reducible refine qp (f := 114) rfl ?_); refine za (some 28) rfl rfl Tryz.func114 yg rfl #[.string a1, .string (⟨#[46]⟩ : ByteArray)] rfl cz ?_; (with_reducible refine (strings_Cut.calls a1 (⟨#[46]⟩ : ByteArray) t253 t254 true _ ?side1 A15.out).mono ?_); (case side1 => exact LibHeld.below HG.out cu); rintro e w20 ⟨rfl, hb⟩; refine ⟨_, rfl, ?_⟩; have n0_ := qd.mk (qf cu hb); clear HB; have HB := n0_; clear n0_; (try clear hb); (try clear hb2); (try clear hk); (try clear hi)) | (go_at_call 117; (with_reducible refine (zb.calls t254 t251 t256 _ A18.out).mono ?_); rintro e w21 ⟨rfl, hb⟩; have n0_ := qd.mk (qf cu hb); clear HB; have HB := n0_; clear n0_; (try clear hb); (try clear hb2); (try clear hk); (try clear hi)))
       go_ret
       exact ⟨by first | rfl | (simp [qi, qj] <;> rfl) | (simp [*, qi, qj] <;> rfl), by repeat (first | (with_reducible first | exact HB.out | apply qb | apply qa | apply qc) | exact HB.out)⟩
      ·replace c17 := Bool.eq_false_iff.mpr c17
       subst c17
       have H1 : (some false) = some r := by rw [if_neg (show ¬ (false = true) by decide)] at H; exact H
       clear H
       have H := H1
       clear H1
       obtain rfl := Option.some.inj H
       go_wp2_with (first | ((with_reducible refine qp (f := 117) rfl ?_); refine za (some 20) rfl rfl Tryz.func117 yg rfl #[.string a0, .string a1] rfl cz ?_; (with_reducible refine (zb.calls a0 a1 false _ A11.out).mono ?_); rintro e w22 ⟨rfl, hb⟩; refine ⟨_, rfl, ?_⟩; have n0_ := qd.mk (qf cu hb); clear HB; have HB := n0_; clear n0_; (try clear hb); (try clear hb2); (try clear hk); (try clear hi)) | ((with_reducible refine qp (f := 118) rfl ?_); refine za (some 23) rfl rfl Tryz.func118 yg rfl #[.string a0, .string (⟨#[42, 46]⟩ : ByteArray)] rfl cz ?_; (with_reducible refine (strings_CutPrefix.calls a0 (⟨#[42, 46]⟩ : ByteArray) t251 true _ A14.out).mono ?_); rintro e w' ⟨rfl, ⟨nd, rfl⟩⟩; refine ⟨_, rfl, ?_⟩) | ((with_reducible refine qp (f := 114) rfl ?_); refine za (some 28) rfl rfl Tryz.func114 yg rfl #[.string a1, .string (⟨#[46]⟩ : ByteArray)] rfl cz ?_; (with_reducible refine (strings_Cut.calls a1 (⟨#[46]⟩ : ByteArray) t253 t254 false _ ?side1 A15.out).mono ?_); (case side1 => exact LibHeld.below HG.out cu); rintro e w23 ⟨rfl, hb⟩; refine ⟨_, rfl, ?_⟩; have n0_ := qd.mk (qf cu hb); clear HB; have HB := n0_; clear n0_; (try clear hb); (try clear hb2); (try clear hk); (try clear hi)))
       go_ret
       exact ⟨by first | rfl | (simp [qi, qj] <;> rfl) | (simp [*, qi, qj] <;> rfl), by repeat (first | (with_reducible first | exact HB.out | apply qb | apply qa | apply qc) | exact HB.out)⟩
     ·replace c16 := Bool.eq_false_iff.mpr c16
      subst c16
      have H1 : (some false) = some r := by rw [if_neg (show ¬ (false = true) by decide)] at H; exact H
      clear H
      have H := H1
      clear H1
      obtain rfl := Option.some.inj H
      go_wp2_with (first | ((with_reducible refine qp (f := 117) rfl ?_); refine za (some 20) rfl rfl Tryz.func117 yg rfl #[.string a0, .string a1] rfl cz ?_; (with_reducible refine (zb.calls a0 a1 false _ A11.out).mono ?_); rintro e w24 ⟨rfl, hb⟩; refine ⟨_, rfl, ?_⟩; have n0_ := qd.mk (qf cu hb); clear HB; have HB := n0_; clear n0_; (try clear hb); (try clear hb2); (try clear hk); (try clear hi)) | ((with_reducible refine qp (f := 118) rfl ?_); refine za (some 23) rfl rfl Tryz.func118 yg rfl #[.string a0, .string (⟨#[42, 46]⟩ : ByteArray)] rfl cz ?_; (with_reducible refine (strings_CutPrefix.calls a0 (⟨#[42, 46]⟩ : ByteArray) t251 false _ A14.out).mono ?_); rintro e w' ⟨rfl, ⟨nd, rfl⟩⟩; refine ⟨_, rfl, ?_⟩) | ((with_reducible refine qp (f := 114) rfl ?_); refine za (some 28) rfl rfl Tryz.func114 yg rfl #[.string a1, .string (⟨#[46]⟩ : ByteArray)] rfl cz ?_; (with_reducible refine (strings_Cut.calls a1 (⟨#[46]⟩ : ByteArray) t253 t254 t255 _ ?side1 A15.out).mono ?_); (case side1 => exact LibHeld.below HG.out cu); rintro e w25 ⟨rfl, hb⟩; refine ⟨_, rfl, ?_⟩; have n0_ := qd.mk (qf cu hb); clear HB; have HB := n0_; clear n0_; (try clear hb); (try clear hb2); (try clear hk); (try clear hi)))
      go_ret
      exact ⟨by first | rfl | (simp [qi, qj] <;> rfl) | (simp [*, qi, qj] <;> rfl), by repeat (first | (with_reducible first | exact HB.out | apply qb | apply qa | apply qc) | exact HB.out)⟩
def q5.Pure : Prop := ∀ (a0 : ByteArray) (a1 : ByteArray), a0.size ≤ 140737488351232 → a1.size ≤ 140737488351232 → ∃ k, q5.f k a0 a1 = some true
theorem q5.walk (P : q5.Pure) (a0 : ByteArray) (a1 : ByteArray) (w : World) (hG : LibHeld w) (w0 : a0.size ≤ 140737488351232) (w1 : a1.size ≤ 140737488351232) :
  Calls Tryz.prog 82 #[.string a0, .string a1] w fun e w' => e = .returned (.bool true) ∧ Below w.heap.size w w' := by
 obtain ⟨k, h⟩ := P a0 a1 w0 w1
 refine (q5.calls k a0 a1 true w hG h).mono ?_
 rintro e w' ⟨rfl, hd⟩
 exact ⟨rfl, hd⟩
end Go.Proofs.YtlamfnaoemingaaGreatDoor.C
end
section
namespace Go.Proofs.YtlamfnaoemingaaGreatDoor.C
open Go.RowKit Go.Proofs.YtlamfnaoemingaaGreatDoorW.PrintWords Go.Proofs.YtlamfnaoemingaaGreatDoorW.PrintLast Go.Proofs.YtlamfnaoemingaaGreatDoorW.PrintMore
attribute [local go_sem] zw zx xe xd zn zp zy zz
set_option linter.unusedVariables false
set_option linter.unusedSimpArgs false
def strings_Join.f (a0 : List ByteArray) (a1 : ByteArray) : Option ByteArray := if a0.length ≤ 140737488355328 ∧ (Lib.join (a0.map (·.data.toList)) a1.data.toList).length ≤ 140737488355328 then some ⟨(Lib.join (a0.map (·.data.toList)) a1.data.toList).toArray⟩ else none
theorem str_cells {w : World} {A : Option Addr} {l : List ByteArray} (h : Kd.C Kd.string w A l.length l) (hl : 0 < l.length) : ∃ b o, A = some ⟨b, o, none⟩ ∧ b < w.heap.size ∧ ∀ (j : Nat) x, l[j]? = some x → w.cell? ⟨b, o + j, none⟩ = some (.string x) := by
 obtain ⟨ad, rfl, hc⟩ := h.2.2 hl
 have cell : ∀ (j : Nat) x, l[j]? = some x → w.cell? (ad.add j) = some (.string x) := fun j x hj => by
  obtain ⟨c, hlen, hK, hcell⟩ := hc j x hj
  have hc1 : c = [.string x] := hK
  subst hc1
  have := hcell 0 (.string x) rfl
  rwa [show j * Kd.string.sz + 0 = j from by rw [show Kd.string.sz = 1 from rfl, Nat.mul_one, Nat.add_zero]] at this
 obtain ⟨b, o, s⟩ := ad
 have h0 := cell 0 l[0] (List.getElem?_eq_getElem hl)
 rw [Addr.add_zero'] at h0
 have hb := World.block_lt_of_cell? w _ h0
 have hs : s = none := by
  cases s with
  | none => rfl
  | some v =>
   exfalso
   unfold World.cell? at h0
   split at h0
   ·simp at h0
   ·cases h0
 subst hs
 refine ⟨b, o, rfl, hb, fun j x hj => ?_⟩
 ·have := cell j x hj
  rwa [show (⟨b, o, none⟩ : Addr).add j = ⟨b, o + j, none⟩ from by unfold Addr.add; split <;> simp_all] at this
theorem strings_Join.calls (A0 : Option Addr) (c0 : Nat) (l0 : List ByteArray) (a1 : ByteArray) (r : ByteArray) (w : World) (hr0 : Kd.C Kd.string w A0 l0.length l0) (hc0 : l0.length ≤ c0) (h : strings_Join.f l0 a1 = some r) :
  Calls Tryz.prog 98 #[.slice A0 l0.length c0, .string a1] w fun e w' => e = .returned (.string r) ∧ Below w.heap.size w w' := by
 unfold strings_Join.f at h
 split at h
 case isFalse => exact absurd h y7
 rename_i hn
 obtain rfl := Option.some.inj h
 clear h
 rcases l0 with _ | ⟨x, l'⟩
 ·refine (Tryz.strings_Join_none A0 c0 a1 w).mono fun e w' ⟨he, hw⟩ => ?_
  subst hw
  exact ⟨he, Below.refl _ _⟩
 ·obtain ⟨b, o, rfl, hb, hcell⟩ := str_cells hr0 y7
  exact (Tryz.strings_Join b o c0 (x :: l') a1 w hcell hb hn.1 hc0 hn.2).mono fun e w' ⟨he, hw⟩ => ⟨he, hw⟩
end Go.Proofs.YtlamfnaoemingaaGreatDoor.C
end
