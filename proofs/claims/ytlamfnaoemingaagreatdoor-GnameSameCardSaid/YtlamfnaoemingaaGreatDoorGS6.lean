/- Words, walks and plain laws that the claim rests on, gathered. -/
import Derived.Shelf.Strings.Builder1
import Derived.Shelf.Strings.Builder2
import Derived.Shelf.Strings.OnBuilder
import Derived.Shelf.Small.Bits
import Derived.Shelf.Small.Strs
import Derived.Shelf.Small.Wraps
import Derived.Shelf.Strings.BuilderF
import Derived.Shelf.Strings.BuilderK
import Derived.Shelf.Utf8.RuneCount
import Derived.Shelf.Strings.Builder2Cap
import Derived.Shelf.Strconv.Itoa0
import Derived.Shelf.Strings.Search1
import Derived.Shelf.Strings.Search2
import Derived.Shelf.Strings.Search3
import Derived.Shelf.Strings.Cut
import Derived.Shelf.Strings.Count
import Derived.Shelf.LaysM
import Derived.Shelf.Strings.Shaped
import Derived.Shelf.Sort.Plain
import Derived.Shelf.Strings.Prefix
import Derived.Shelf.Strings.Split
import Derived.Shelf.Strings.SplitShaped
import Derived.Shelf.Unicode.Decode
import Derived.Shelf.Strings.RuneCount
import Derived.Shelf.Strings.Explode
import Derived.Shelf.Unicode.DecodeSlow
import Derived.Shelf.Unicode.DecodeAny
import Derived.Shelf.Strings.BuilderCap
import Derived.Shelf.Slices.In.SortNone
import Derived.Shelf.Slices.In.SortNone2
import Derived.Test.YtlamfnaoemingaaGreatDoorProg
import Derived.Below
import Derived.Deep.Draws
import Derived.Deep.AppendLies
import Derived.Maps.AppendAt
import Derived.OwnWalk
import Derived.Laws.BytesArg
import Derived.Laws.MakeOwn
import Derived.Laws.OwnMore
import Derived.Deep.OwnRows
import Derived.Tactics
import Derived.Lib.ConvBytes
import Derived.Laws.Slices
import Derived.WalkKit
import Derived.KernelRfl
import Derived.RowKit3
import Derived.Deep.LoopGhost
import Derived.Deep.QuietTactic
import Derived.BigQuiet
import Derived.WideLaws
import Derived.Deep.DeepCutAuto
import Derived.Deep.CutBlock
import Derived.Deep.RegionHeld3
import Derived.Laws.Rows
import Derived.Lib.AppendStr
import Derived.ArgAppend
import Derived.Laws.IdiomCopy
import Derived.RowKit
import Derived.WalkSpells
import Derived.OrdersHeld
import Derived.Laws.BitsLemmas
import Derived.WalkLawsBesides
import Derived.Laws.StructEq
import Derived.Test.YtlamfnaoemingaaGreatDoorGS0
import Derived.Test.YtlamfnaoemingaaGreatDoorGS1
import Derived.Test.YtlamfnaoemingaaGreatDoorGS2
import Derived.Test.YtlamfnaoemingaaGreatDoorGS3
import Derived.Test.YtlamfnaoemingaaGreatDoorGS4
import Derived.Test.YtlamfnaoemingaaGreatDoorGS5
import Derived.Test.YtlamfnaoemingaaGreatDoorGSc
namespace Go.Proofs.YtlamfnaoemingaaGreatDoorW.PrintLast
end Go.Proofs.YtlamfnaoemingaaGreatDoorW.PrintLast
namespace Go.Proofs.YtlamfnaoemingaaGreatDoorW.PrintMore
end Go.Proofs.YtlamfnaoemingaaGreatDoorW.PrintMore
namespace Go.Proofs.YtlamfnaoemingaaGreatDoorW.PrintWords
end Go.Proofs.YtlamfnaoemingaaGreatDoorW.PrintWords
section
namespace Go.Proofs.YtlamfnaoemingaaGreatDoor.C
open Go.RowKit Go.Proofs.YtlamfnaoemingaaGreatDoorW.PrintWords Go.Proofs.YtlamfnaoemingaaGreatDoorW.PrintLast Go.Proofs.YtlamfnaoemingaaGreatDoorW.PrintMore
attribute [local go_sem] zw zx xe xd zn zp zy zz
set_option linter.unusedVariables false
set_option linter.unusedSimpArgs false
def qz.j0 : Nat → Bool → Int → ByteArray → List (List (S83)) → Int → ByteArray → List (List (S83)) → Option (Bool)
 | 0, _, _, _, _, _, _, _ => none
 | k + 1, x22, x180000, x180001, x180002, x181000, x181001, x181002 => if x22 = true then ((qv.f k x180001 x181001).bind fun t184 => (some t184)) else ((zu.f x180001).bind fun t185 => ((zu.f x181001).bind fun t186 => (some (t185.toList == t186.toList))))
def qz.f (k : Nat) (a0_0 : Int) (a0_1 : ByteArray) (l0_2 : List (List (S83))) (a1_0 : Int) (a1_1 : ByteArray) (l1_2 : List (List (S83))) : Option (Bool) := if a0_0 = a1_0 then ((xj.f a0_0).bind fun t181 => (if t181 = 0 then ((q7.f k a0_1).bind fun t182 => (if t182 = true then ((q7.f k a1_1).bind fun t183 => (qz.j0 k t183 a0_0 a0_1 l0_2 a1_0 a1_1 l1_2)) else (qz.j0 k false a0_0 a0_1 l0_2 a1_0 a1_1 l1_2))) else (if t181 = 1 then ((zu.f a0_1).bind fun t187 => ((zu.f a1_1).bind fun t188 => (some (t187.toList == t188.toList)))) else (if t181 = 2 then ((xb.f k l0_2 l1_2).bind fun t189 => (some t189)) else (if t181 = 3 then (some (a0_1.toList == a1_1.toList)) else (some false)))))) else (some false)
theorem qz.zv : ∀ k, (∀ y0 y1 y2 y3 y4 y5 y6, LeO (qz.j0 k y0 y1 y2 y3 y4 y5 y6) (qz.j0 (k + 1) y0 y1 y2 y3 y4 y5 y6))
 | 0 => fun _ _ _ _ _ _ _ r h => by simp [qz.j0] at h
 | k + 1 => by
  have ih0 := qz.zv k
  ·intro y0 y1 y2 y3 y4 y5 y6
   unfold qz.j0
   repeat' first
   | (with_reducible exact ih0 _ _ _ _ _ _ _)
   | (with_reducible exact xb.mono _ _ _)
   | (with_reducible exact q7.mono _ _)
   | (with_reducible exact qv.mono _ _ _)
   | (with_reducible exact LeO.refl _)
   | (with_reducible exact LeO.none _)
   | (with_reducible refine LeO.ite ?_ ?_)
   | (with_reducible refine LeO.bind ?_ (fun _ => ?_))
theorem qz.mono : ∀ a0 a1 a2 a3 a4 a5 k, LeO (qz.f k a0 a1 a2 a3 a4 a5) (qz.f (k + 1) a0 a1 a2 a3 a4 a5) := by
 intro a0 a1 a2 a3 a4 a5 k
 have ih0 := qz.zv k
 unfold qz.f
 repeat' first
   | (with_reducible exact ih0 _ _ _ _ _ _ _)
   | (with_reducible exact xb.mono _ _ _)
   | (with_reducible exact q7.mono _ _)
   | (with_reducible exact qv.mono _ _ _)
   | (with_reducible exact LeO.refl _)
   | (with_reducible exact LeO.none _)
   | (with_reducible refine LeO.ite ?_ ?_)
   | (with_reducible refine LeO.bind ?_ (fun _ => ?_))
def qz.T7 : Bool × List (List Nat × List Nat) := (true, [([], []), ([0], [0]), ([1], [1]), ([], []), ([3], [3]), ([4, 2], [4]), ([2, 5], [2, 5]), ([6, 5, 0, 1, 2, 3, 4, 5, 6], [6])])
def qz.B7 : List Nat := [0, 1, 3, 0, 8, 31, 63, 127]
theorem qz.tab7 : rtab .any (opsOf Tryz.f39 7) = qz.T7 := by kernel_rfl
theorem qz.bits7 : waitsOk qz.T7.2 qz.B7 = true := by kernel_rfl
def qz.T9 : Bool × List (List Nat × List Nat) := (true, [([], []), ([0], [0]), ([1], [1]), ([], []), ([3], [3]), ([4, 2], [4]), ([2, 5], [2, 5]), ([6, 5, 0, 1, 2, 3, 4, 5, 6], [6])])
def qz.B9 : List Nat := [0, 1, 3, 0, 8, 31, 63, 127]
theorem qz.tab9 : rtab .any (opsOf Tryz.f39 9) = qz.T9 := by kernel_rfl
theorem qz.bits9 : waitsOk qz.T9.2 qz.B9 = true := by kernel_rfl
set_option maxHeartbeats 8000000 in
set_option maxRecDepth 100000 in
theorem qz.calls (k : Nat) (a0_0 : Int) (a0_1 : ByteArray) (A0_2 : Option Addr) (c0_2 : Nat) (l0_2 : List (List (S83))) (a1_0 : Int) (a1_1 : ByteArray) (A1_2 : Option Addr) (c1_2 : Nat) (l1_2 : List (List (S83))) (r : Bool) (w : World) (hG : LibHeld w) (hr0_2 : Kd.C (Kd.slice 83 k83) w A0_2 l0_2.length l0_2) (hc0_2 : l0_2.length ≤ c0_2) (hr1_2 : Kd.C (Kd.slice 83 k83) w A1_2 l1_2.length l1_2) (hc1_2 : l1_2.length ≤ c1_2) (h : qz.f k a0_0 a0_1 l0_2 a1_0 a1_1 l1_2 = some r) :
  Calls Tryz.prog 39 #[.agg #[.int .i64 a0_0, .string a0_1, .slice A0_2 l0_2.length c0_2], .agg #[.int .i64 a1_0, .string a1_1, .slice A1_2 l1_2.length c1_2]] w fun e w' => e = .returned (.bool r) ∧ Below w.heap.size w w' := by
 have hu32 := Tryz.underlying32
 have hu30 := Tryz.underlying30
 have HG := qd.mk hG
 clear hG
 have HR0_2 := qd.mk hr0_2
 have HC0_2 := qd.mk hc0_2
 clear hr0_2 hc0_2
 have HR1_2 := qd.mk hr1_2
 have HC1_2 := qd.mk hc1_2
 clear hr1_2 hc1_2
 have HB := qd.mk (Below.refl w.heap.size w)
 have H : (if a0_0 = a1_0 then ((xj.f a0_0).bind fun t181 => (if t181 = 0 then ((q7.f k a0_1).bind fun t182 => (if t182 = true then ((q7.f k a1_1).bind fun t183 => (qz.j0 k t183 a0_0 a0_1 l0_2 a1_0 a1_1 l1_2)) else (qz.j0 k false a0_0 a0_1 l0_2 a1_0 a1_1 l1_2))) else (if t181 = 1 then ((zu.f a0_1).bind fun t187 => ((zu.f a1_1).bind fun t188 => (some (t187.toList == t188.toList)))) else (if t181 = 2 then ((xb.f k l0_2 l1_2).bind fun t189 => (some t189)) else (if t181 = 3 then (some (a0_1.toList == a1_1.toList)) else (some false)))))) else (some false)) = some r := h
 clear h
 by_cases c3 : a0_0 = a1_0
 ·rw [if_pos c3] at H
  have c3b0 : (a0_0 == a1_0) = true := beq_iff_eq.mpr c3
  have c3b1 : (a0_0 != a1_0) = false := bne_eq_false_iff_eq.mpr c3
  clear c3
  replace H := Option.bind_eq_some_iff.mp H
  obtain ⟨t181, A40, H⟩ := H
  replace H : (if t181 = 0 then ((q7.f k a0_1).bind fun t182 => (if t182 = true then ((q7.f k a1_1).bind fun t183 => (qz.j0 k t183 a0_0 a0_1 l0_2 a1_0 a1_1 l1_2)) else (qz.j0 k false a0_0 a0_1 l0_2 a1_0 a1_1 l1_2))) else (if t181 = 1 then ((zu.f a0_1).bind fun t187 => ((zu.f a1_1).bind fun t188 => (some (t187.toList == t188.toList)))) else (if t181 = 2 then ((xb.f k l0_2 l1_2).bind fun t189 => (some t189)) else (if t181 = 3 then (some (a0_1.toList == a1_1.toList)) else (some false))))) = some r := H
  have A4 := qd.mk A40
  clear A40
  by_cases c5 : t181 = 0
  ·rw [if_pos c5] at H
   have c5b0 : (t181 == 0) = true := beq_iff_eq.mpr c5
   have c5b1 : (t181 != 0) = false := bne_eq_false_iff_eq.mpr c5
   clear c5
   have HC6 := qd.mk H
   clear H
   go_enter Tryz.func39, Tryz.ntmps39
   go_upto_region 5 with (first | ((with_reducible refine q8 (N := 2) rfl ?_); refine zh ?hg (N := 2) ?hd (cs := #[.int .i64 a0_0, .string a0_1, .slice A0_2 l0_2.length c0_2]) (t := 32) ?hr ?_; (case hd => rfl); (case hg => rfl); (case hr => first | (go_simp; done) | (go_simp; rfl)); intro gb179 hg w7 hbox hb; have n0_ := qd.mk (qf cu hb); have n1_ := qd.mk (hbox); have n2_ := qd.mk ((by rw [hg]; exact (qo cu) : w.heap.size ≤ gb179)); have n3_ := qd.mk ((by rw [hg]; exact (qo cu) : w.heap.size ≤ gb179)); clear HB; have HB := n0_; have BK179 := n1_; have GW179 := n2_; have GE179 := n3_; clear n0_ n1_ n2_ n3_; clear hb hbox hg) | ((with_reducible refine q8 (N := 3) rfl ?_); refine zh ?hg (N := 3) ?hd (cs := #[.int .i64 a1_0, .string a1_1, .slice A1_2 l1_2.length c1_2]) (t := 32) ?hr ?_; (case hd => rfl); (case hg => rfl); (case hr => first | (go_simp; done) | (go_simp; rfl)); intro gb180 hg w8 hbox hb; have n0_ := qd.mk (qx (g := gb179) (o := .cells #[.int .i64 a0_0, .string a0_1, .slice A0_2 l0_2.length c0_2] 32 (0, 0)) yh hb); have n1_ := qd.mk (qf ym hb); have n2_ := qd.mk (hbox); have n3_ := qd.mk ((by rw [hg]; exact (qo ym) : w.heap.size ≤ gb180)); have n4_ := qd.mk ((by rw [hg]; exact (qo ym) : w.heap.size ≤ gb180)); have n5_ := qd.mk ((by rw [hg]; exact Nat.ne_of_lt (zo (g := gb179) (o := .cells #[.int .i64 a0_0, .string a0_1, .slice A0_2 l0_2.length c0_2] 32 (0, 0)) yh) : gb179 ≠ gb180)); have n6_ := qd.mk ((by rw [hg]; exact Nat.ne_of_gt (zo (g := gb179) (o := .cells #[.int .i64 a0_0, .string a0_1, .slice A0_2 l0_2.length c0_2] 32 (0, 0)) yh) : gb180 ≠ gb179)); clear BK179; clear HB; have BK179 := n0_; have HB := n1_; have BK180 := n2_; have GW180 := n3_; have GE180 := n4_; have NB179_180 := n5_; have NB180_179 := n6_; clear n0_ n1_ n2_ n3_ n4_ n5_ n6_; clear hb hbox hg; have hnb9 := NB179_180.out; have hnc9 := NB180_179.out; have hcz10_0 : w8.cell? ⟨gb179, 0, none⟩ = some (.int .i64 a0_0) := (qe BK179.out 0).trans rfl; have hcz10_1 : w8.cell? ⟨gb179, 1, none⟩ = some (.string a0_1) := (qe BK179.out 1).trans rfl; have hcz10_2 : w8.cell? ⟨gb179, 2, none⟩ = some (.slice A0_2 l0_2.length c0_2) := (qe BK179.out 2).trans rfl; have hfz10_0 := qg BK179.out 0; have hfz10_1 := qg BK179.out 1; have hfz10_2 := qg BK179.out 2; have hcz11_0 : w8.cell? ⟨gb180, 0, none⟩ = some (.int .i64 a1_0) := (qe BK180.out 0).trans rfl; have hcz11_1 : w8.cell? ⟨gb180, 1, none⟩ = some (.string a1_1) := (qe BK180.out 1).trans rfl; have hcz11_2 : w8.cell? ⟨gb180, 2, none⟩ = some (.slice A1_2 l1_2.length c1_2) := (qe BK180.out 2).trans rfl; have hfz11_0 := qg BK180.out 0; have hfz11_1 := qg BK180.out 1; have hfz11_2 := qg BK180.out 2) | ((with_reducible refine qp (f := 65) rfl ?_); refine za (some 12) rfl rfl Tryz.func65 yg rfl #[.int .i64 a0_0] rfl cz ?_; (with_reducible refine (xj.calls a0_0 t181 _ A4.out).mono ?_); rintro e w' ⟨rfl, ⟨nd, rfl⟩⟩; refine ⟨_, rfl, ?_⟩))
   (try simp only [Act.put, List.setIfInBounds_toArray, List.set_cons_zero, List.set_cons_succ])
   go_cut [22] (fun v22 wc => ∃ (kq : Nat) (x22_5 : Bool), v22 = .bool x22_5 ∧ qd (qz.j0 kq x22_5 a0_0 a0_1 l0_2 a1_0 a1_1 l1_2 = some r) ∧ qd (kq ≤ k) ∧ qd (wc.heap[gb179]? = some (.cells #[.int .i64 a0_0, .string a0_1, (.slice A0_2 l0_2.length c0_2)] 32 (0, 0))) ∧ qd (wc.heap[gb180]? = some (.cells #[.int .i64 a1_0, .string a1_1, (.slice A1_2 l1_2.length c1_2)] 32 (0, 0))) ∧ qd (Below w.heap.size w wc))
   case first =>
    have H := HC6.out
    clear HC6
    replace H := Option.bind_eq_some_iff.mp H
    obtain ⟨t182, A120, H⟩ := H
    replace H : (if t182 = true then ((q7.f k a1_1).bind fun t183 => (qz.j0 k t183 a0_0 a0_1 l0_2 a1_0 a1_1 l1_2)) else (qz.j0 k false a0_0 a0_1 l0_2 a1_0 a1_1 l1_2)) = some r := H
    have A12 := qd.mk A120
    clear A120
    by_cases c13 : t182 = true
    ·subst c13
     have H1 : ((q7.f k a1_1).bind fun t183 => (qz.j0 k t183 a0_0 a0_1 l0_2 a1_0 a1_1 l1_2)) = some r := by rw [if_pos rfl] at H; exact H
     clear H
     have H := H1
     clear H1
     replace H := Option.bind_eq_some_iff.mp H
     obtain ⟨t183, A140, H⟩ := H
     replace H : (qz.j0 k t183 a0_0 a0_1 l0_2 a1_0 a1_1 l1_2) = some r := H
     have A14 := qd.mk A140
     clear A140
     have H' := qd.mk H
     clear H
     have hnb15 := NB179_180.out
     have hnc15 := NB180_179.out
     have hcz16_0 : w8.cell? ⟨gb179, 0, none⟩ = some (.int .i64 a0_0) := (qe BK179.out 0).trans rfl
     have hcz16_1 : w8.cell? ⟨gb179, 1, none⟩ = some (.string a0_1) := (qe BK179.out 1).trans rfl
     have hcz16_2 : w8.cell? ⟨gb179, 2, none⟩ = some (.slice A0_2 l0_2.length c0_2) := (qe BK179.out 2).trans rfl
     have hfz16_0 := qg BK179.out 0
     have hfz16_1 := qg BK179.out 1
     have hfz16_2 := qg BK179.out 2
     go_wp2_with (first | ((with_reducible refine qp (f := 75) rfl ?_); refine za (some 17) rfl rfl Tryz.func75 yg rfl #[.string a0_1] rfl cz ?_; (with_reducible refine (q7.calls k a0_1 true _ ?side1 A12.out).mono ?_); (case side1 => exact LibHeld.below HG.out yj); rintro e w17 ⟨rfl, hb⟩; refine ⟨_, rfl, ?_⟩; have n0_ := qd.mk (qx (g := gb179) (o := .cells #[.int .i64 a0_0, .string a0_1, .slice A0_2 l0_2.length c0_2] 32 (0, 0)) yh hb); have n1_ := qd.mk (qx (g := gb180) (o := .cells #[.int .i64 a1_0, .string a1_1, .slice A1_2 l1_2.length c1_2] 32 (0, 0)) yw hb); have n2_ := qd.mk (qf yj hb); clear BK179; clear BK180; clear HB; have BK179 := n0_; have BK180 := n1_; have HB := n2_; clear n0_ n1_ n2_; (try clear hb); (try clear hb2); (try clear hk); (try clear hi); have hcz18_0 : w17.cell? ⟨gb180, 0, none⟩ = some (.int .i64 a1_0) := (qe BK180.out 0).trans rfl; have hcz18_1 : w17.cell? ⟨gb180, 1, none⟩ = some (.string a1_1) := (qe BK180.out 1).trans rfl; have hcz18_2 : w17.cell? ⟨gb180, 2, none⟩ = some (.slice A1_2 l1_2.length c1_2) := (qe BK180.out 2).trans rfl; have hfz18_0 := qg BK180.out 0; have hfz18_1 := qg BK180.out 1; have hfz18_2 := qg BK180.out 2) | (go_at_call 75; (with_reducible refine (q7.calls k a1_1 t183 _ ?side1 A14.out).mono ?_); (case side1 => exact LibHeld.below HG.out yj); rintro e w19 ⟨rfl, hb⟩; have n0_ := qd.mk (qx (g := gb179) (o := .cells #[.int .i64 a0_0, .string a0_1, .slice A0_2 l0_2.length c0_2] 32 (0, 0)) yh hb); have n1_ := qd.mk (qx (g := gb180) (o := .cells #[.int .i64 a1_0, .string a1_1, .slice A1_2 l1_2.length c1_2] 32 (0, 0)) yw hb); have n2_ := qd.mk (qf yj hb); clear BK179; clear BK180; clear HB; have BK179 := n0_; have BK180 := n1_; have HB := n2_; clear n0_ n1_ n2_; (try clear hb); (try clear hb2); (try clear hk); (try clear hi)))
     go_meet
     case rel => exact ⟨_, (t183), yf, H', ⟨by first | omega | exact Nat.le_refl _⟩, ⟨by (with_reducible repeat (first | refine qm ?_ _ | refine qn ?_ | refine ql ?_ _)); exact BK179.out⟩, ⟨by (with_reducible repeat (first | refine qm ?_ _ | refine qn ?_ | refine ql ?_ _)); exact BK180.out⟩, ⟨by repeat (first | (with_reducible first | exact HB.out | apply qb | apply qa | apply qc | refine qh ?_ GE179.out | refine qh ?_ GE180.out) | exact HB.out)⟩⟩
    ·replace c13 := Bool.eq_false_iff.mpr c13
     subst c13
     have H1 : (qz.j0 k false a0_0 a0_1 l0_2 a1_0 a1_1 l1_2) = some r := by rw [if_neg (show ¬ (false = true) by decide)] at H; exact H
     clear H
     have H := H1
     clear H1
     have H' := qd.mk H
     clear H
     have hnb20 := NB179_180.out
     have hnc20 := NB180_179.out
     have hcz21_0 : w8.cell? ⟨gb179, 0, none⟩ = some (.int .i64 a0_0) := (qe BK179.out 0).trans rfl
     have hcz21_1 : w8.cell? ⟨gb179, 1, none⟩ = some (.string a0_1) := (qe BK179.out 1).trans rfl
     have hcz21_2 : w8.cell? ⟨gb179, 2, none⟩ = some (.slice A0_2 l0_2.length c0_2) := (qe BK179.out 2).trans rfl
     have hfz21_0 := qg BK179.out 0
     have hfz21_1 := qg BK179.out 1
     have hfz21_2 := qg BK179.out 2
     go_wp2_with (first | ((with_reducible refine qp (f := 75) rfl ?_); refine za (some 17) rfl rfl Tryz.func75 yg rfl #[.string a0_1] rfl cz ?_; (with_reducible refine (q7.calls k a0_1 false _ ?side1 A12.out).mono ?_); (case side1 => exact LibHeld.below HG.out yj); rintro e w22 ⟨rfl, hb⟩; refine ⟨_, rfl, ?_⟩; have n0_ := qd.mk (qx (g := gb179) (o := .cells #[.int .i64 a0_0, .string a0_1, .slice A0_2 l0_2.length c0_2] 32 (0, 0)) yh hb); have n1_ := qd.mk (qx (g := gb180) (o := .cells #[.int .i64 a1_0, .string a1_1, .slice A1_2 l1_2.length c1_2] 32 (0, 0)) yw hb); have n2_ := qd.mk (qf yj hb); clear BK179; clear BK180; clear HB; have BK179 := n0_; have BK180 := n1_; have HB := n2_; clear n0_ n1_ n2_; (try clear hb); (try clear hb2); (try clear hk); (try clear hi)))
     go_meet
     case rel => exact ⟨_, (false), yf, H', ⟨by first | omega | exact Nat.le_refl _⟩, ⟨by (with_reducible repeat (first | refine qm ?_ _ | refine qn ?_ | refine ql ?_ _)); exact BK179.out⟩, ⟨by (with_reducible repeat (first | refine qm ?_ _ | refine qn ?_ | refine ql ?_ _)); exact BK180.out⟩, ⟨by repeat (first | (with_reducible first | exact HB.out | apply qb | apply qa | apply qc | refine qh ?_ GE179.out | refine qh ?_ GE180.out) | exact HB.out)⟩⟩
   case rest =>
    clear HC6
    (try clear c1); (try clear c2); (try clear p2); (try clear c3); (try clear c3b0); (try clear c3b1); (try clear c5); (try clear c5b0); (try clear c5b1); (try clear c6); (try clear c7); try clear c9
    (try clear c13); (try clear c15); (try clear c20); (try clear hcz10_0); (try clear hcz10_1); (try clear hcz10_2); (try clear hcz11_0); (try clear hcz11_1); (try clear hcz11_2); try clear hcz16_0
    (try clear hcz16_1); (try clear hcz16_2); (try clear hcz18_0); (try clear hcz18_1); (try clear hcz18_2); (try clear hcz21_0); (try clear hcz21_1); (try clear hcz21_2); (try clear hfz10_0); try clear hfz10_1
    (try clear hfz10_2); (try clear hfz11_0); (try clear hfz11_1); (try clear hfz11_2); (try clear hfz16_0); (try clear hfz16_1); (try clear hfz16_2); (try clear hfz18_0); (try clear hfz18_1); try clear hfz18_2
    (try clear hfz21_0); (try clear hfz21_1); try clear hfz21_2
    obtain ⟨kq, x22_5, rfl, HA, HJ5, BK179, BK180, HB⟩ := hcut
    cases kq with
    | zero => exact absurd HA.out (by simp [qz.j0])
    | succ kj5 =>
     have H := HA.out
     clear HA
     simp only [qz.j0] at H
     by_cases c23 : x22_5 = true
     ·subst c23
      have H1 : ((qv.f kj5 a0_1 a1_1).bind fun t184 => (some t184)) = some r := by rw [if_pos rfl] at H; exact H
      clear H
      have H := H1
      clear H1
      replace H := Option.bind_eq_some_iff.mp H
      obtain ⟨t184, A240, H⟩ := H
      replace H : (some t184) = some r := H
      have A24 := qd.mk A240
      clear A240
      obtain rfl := Option.some.inj H
      have hnb25 := NB179_180.out
      have hnc25 := NB180_179.out
      have hcz26_0 : wc.cell? ⟨gb179, 0, none⟩ = some (.int .i64 a0_0) := (qe BK179.out 0).trans rfl
      have hcz26_1 : wc.cell? ⟨gb179, 1, none⟩ = some (.string a0_1) := (qe BK179.out 1).trans rfl
      have hcz26_2 : wc.cell? ⟨gb179, 2, none⟩ = some (.slice A0_2 l0_2.length c0_2) := (qe BK179.out 2).trans rfl
      have hfz26_0 := qg BK179.out 0
      have hfz26_1 := qg BK179.out 1
      have hfz26_2 := qg BK179.out 2
      have hcz27_0 : wc.cell? ⟨gb180, 0, none⟩ = some (.int .i64 a1_0) := (qe BK180.out 0).trans rfl
      have hcz27_1 : wc.cell? ⟨gb180, 1, none⟩ = some (.string a1_1) := (qe BK180.out 1).trans rfl
      have hcz27_2 : wc.cell? ⟨gb180, 2, none⟩ = some (.slice A1_2 l1_2.length c1_2) := (qe BK180.out 2).trans rfl
      have hfz27_0 := qg BK180.out 0
      have hfz27_1 := qg BK180.out 1
      have hfz27_2 := qg BK180.out 2
      go_wp2_with (first | ((with_reducible refine qp (f := 76) rfl ?_); refine za (some 27) rfl rfl Tryz.func76 yg rfl #[.string a0_1, .string a1_1] rfl cz ?_; (with_reducible refine (qv.calls kj5 a0_1 a1_1 t184 _ ?side1 A24.out).mono ?_); (case side1 => exact LibHeld.below HG.out yj); rintro e w28 ⟨rfl, hb⟩; refine ⟨_, rfl, ?_⟩; have n0_ := qd.mk (qx (g := gb179) (o := .cells #[.int .i64 a0_0, .string a0_1, .slice A0_2 l0_2.length c0_2] 32 (0, 0)) yh hb); have n1_ := qd.mk (qx (g := gb180) (o := .cells #[.int .i64 a1_0, .string a1_1, .slice A1_2 l1_2.length c1_2] 32 (0, 0)) yw hb); have n2_ := qd.mk (qf yj hb); clear BK179; clear BK180; clear HB; have BK179 := n0_; have BK180 := n1_; have HB := n2_; clear n0_ n1_ n2_; (try clear hb); (try clear hb2); (try clear hk); (try clear hi)))
      go_ret
      exact ⟨by first | rfl | (simp [qi, qj] <;> rfl) | (simp [*, qi, qj] <;> rfl), by repeat (first | (with_reducible first | exact HB.out | apply qb | apply qa | apply qc | refine qh ?_ GE179.out | refine qh ?_ GE180.out) | exact HB.out)⟩
     ·replace c23 := Bool.eq_false_iff.mpr c23
      subst c23
      have H1 : ((zu.f a0_1).bind fun t185 => ((zu.f a1_1).bind fun t186 => (some (t185.toList == t186.toList)))) = some r := by rw [if_neg (show ¬ (false = true) by decide)] at H; exact H
      clear H
      have H := H1
      clear H1
      replace H := Option.bind_eq_some_iff.mp H
      obtain ⟨t185, A290, H⟩ := H
      replace H : ((zu.f a1_1).bind fun t186 => (some (t185.toList == t186.toList))) = some r := H
      have A29 := qd.mk A290
      clear A290
      replace H := Option.bind_eq_some_iff.mp H
      obtain ⟨t186, A300, H⟩ := H
      replace H : (some (t185.toList == t186.toList)) = some r := H
      have A30 := qd.mk A300
      clear A300
      obtain rfl := Option.some.inj H
      try go_wp2
      have n0_ := qd.mk (qn BK179.out)
      have n1_ := qd.mk (qn BK180.out)
      have n2_ := qd.mk (qc HB.out)
      clear BK179
      clear BK180
      clear HB
      have BK179 := n0_
      have BK180 := n1_
      have HB := n2_
      clear n0_ n1_ n2_
      refine start_ (n := 8) (S := fun w' => w'.cell? ⟨gb179, 0, none⟩ = some (.int .i64 a0_0) ∧ w'.cell? ⟨gb179, 1, none⟩ = some (.string a0_1) ∧ w'.cell? ⟨gb179, 2, none⟩ = some (.slice A0_2 l0_2.length c0_2) ∧ w'.cell? ⟨gb180, 0, none⟩ = some (.int .i64 a1_0) ∧ w'.cell? ⟨gb180, 1, none⟩ = some (.string a1_1) ∧ w'.cell? ⟨gb180, 2, none⟩ = some (.slice A1_2 l1_2.length c1_2)) (ds := []) #[false, false, false, false, false, false, false, false] yg rfl rfl ⟨(qe BK179.out 0).trans rfl, (qe BK179.out 1).trans rfl, (qe BK179.out 2).trans rfl, (qe BK180.out 0).trans rfl, (qe BK180.out 1).trans rfl, (qe BK180.out 2).trans rfl⟩ (fun hHeld => ?_); refine with_tabW qz.tab7 qz.bits7 (fun HT_ HW_ => ?_)
      generalize wc.drew = w31 at BK179 BK180 HB hHeld ⊢
      refine xf (i := 0) (N := some 28) (v := ?_) (a' := ?_) #[true, false, false, false, false, false, false, false] rfl rfl (xw HT_.out yg) (fun _ _ _ h => h) (Or.inl ⟨by rfl, ?_⟩) ?_ ?_
      rotate_left
      ·intro w'
       go_simp
       with_reducible rfl
      rotate_left
      ·simp only [Act.put, List.setIfInBounds_toArray, List.set_cons_zero, List.set_cons_succ, zg, zi]
       rfl
      refine xf (i := 3) (N := some 31) (v := ?_) (a' := ?_) #[true, false, false, true, false, false, false, false] rfl rfl (xw HT_.out yg) (fun _ _ _ h => h) (Or.inl ⟨by rfl, ?_⟩) ?_ ?_
      rotate_left
      ·intro w'
       go_simp
       with_reducible rfl
      rotate_left
      ·simp only [Act.put, List.setIfInBounds_toArray, List.set_cons_zero, List.set_cons_succ, zg, zi]
       rfl
      refine take_ (i := 1) (N := some 29) (v := ?_) (a' := ?_) #[true, true, false, true, false, false, false, false] rfl rfl (xu HT_.out HW_.out yg) (fun _ _ _ h => h) (Or.inl ⟨by rfl, ?_⟩) hHeld ?_ ?_
      rotate_left
      ·rintro w' ⟨s0, s1, s2, s3, s4, s5⟩
       go_simp
       with_reducible rfl
      rotate_left
      ·simp only [Act.put, List.setIfInBounds_toArray, List.set_cons_zero, List.set_cons_succ, zg, zi]
       rfl
      refine take_ (i := 4) (N := some 32) (v := ?_) (a' := ?_) #[true, true, false, true, true, false, false, false] rfl rfl (xu HT_.out HW_.out yg) (fun _ _ _ h => h) (Or.inl ⟨by rfl, ?_⟩) hHeld ?_ ?_
      rotate_left
      ·rintro w' ⟨s0, s1, s2, s3, s4, s5⟩
       go_simp
       with_reducible rfl
      rotate_left
      ·simp only [Act.put, List.setIfInBounds_toArray, List.set_cons_zero, List.set_cons_succ, zg, zi]
       rfl
      refine one_ (i := 2) (N := some 30) #[true, true, true, true, true, false, false, false] rfl rfl (one_of HT_.out yg) (by decide) (fun K hK => ?_)
      refine goes_ Tryz.func77 yg rfl #[.string a0_1] (by rfl) rfl rfl cz ?_
      with_reducible refine (zu.calls a0_1 t185 _ A29.out).mono ?_
      rintro e w32 ⟨rfl, hb⟩
      refine ⟨_, rfl, ?_⟩
      have n0_ := qd.mk (qx (g := gb179) (o := .cells #[.int .i64 a0_0, .string a0_1, .slice A0_2 l0_2.length c0_2] 32 (0, 0)) yh hb)
      have n1_ := qd.mk (qx (g := gb180) (o := .cells #[.int .i64 a1_0, .string a1_1, .slice A1_2 l1_2.length c1_2] 32 (0, 0)) yw hb)
      have n2_ := qd.mk (qf yj hb)
      clear BK179
      clear BK180
      clear HB
      have BK179 := n0_
      have BK180 := n1_
      have HB := n2_
      clear n0_ n1_ n2_
      (try clear hb)
      (try clear hb2)
      (try clear hk)
      (try clear hi)
      refine hK.out _ _ ⟨(qe BK179.out 0).trans rfl, (qe BK179.out 1).trans rfl, (qe BK179.out 2).trans rfl, (qe BK180.out 0).trans rfl, (qe BK180.out 1).trans rfl, (qe BK180.out 2).trans rfl⟩ (fun hHeld => ?_)
      clear hK K
      refine norm_ (a' := ?_) ?_ ?_
      rotate_left
      ·show Act.put _ (some 30) _ = _
       simp only [Act.put, List.setIfInBounds_toArray, List.set_cons_zero, List.set_cons_succ, zg, zi]
       rfl
      refine one_ (i := 5) (N := some 33) #[true, true, true, true, true, true, false, false] rfl rfl (one_of HT_.out yg) (by decide) (fun K hK => ?_)
      refine goes_ Tryz.func77 yg rfl #[.string a1_1] (by rfl) rfl rfl cz ?_
      with_reducible refine (zu.calls a1_1 t186 _ A30.out).mono ?_
      rintro e w33 ⟨rfl, hb⟩
      refine ⟨_, rfl, ?_⟩
      have n0_ := qd.mk (qx (g := gb179) (o := .cells #[.int .i64 a0_0, .string a0_1, .slice A0_2 l0_2.length c0_2] 32 (0, 0)) yh hb)
      have n1_ := qd.mk (qx (g := gb180) (o := .cells #[.int .i64 a1_0, .string a1_1, .slice A1_2 l1_2.length c1_2] 32 (0, 0)) yw hb)
      have n2_ := qd.mk (qf yj hb)
      clear BK179
      clear BK180
      clear HB
      have BK179 := n0_
      have BK180 := n1_
      have HB := n2_
      clear n0_ n1_ n2_
      (try clear hb)
      (try clear hb2)
      (try clear hk)
      (try clear hi)
      refine hK.out _ _ ⟨(qe BK179.out 0).trans rfl, (qe BK179.out 1).trans rfl, (qe BK179.out 2).trans rfl, (qe BK180.out 0).trans rfl, (qe BK180.out 1).trans rfl, (qe BK180.out 2).trans rfl⟩ (fun hHeld => ?_)
      clear hK K
      refine norm_ (a' := ?_) ?_ ?_
      rotate_left
      ·show Act.put _ (some 33) _ = _
       simp only [Act.put, List.setIfInBounds_toArray, List.set_cons_zero, List.set_cons_succ, zg, zi]
       rfl
      refine xf (i := 6) (N := some 34) (v := ?_) (a' := ?_) #[true, true, true, true, true, true, true, false] rfl rfl (xw HT_.out yg) (fun _ _ _ h => h) (Or.inl ⟨by rfl, ?_⟩) ?_ ?_
      rotate_left
      ·intro w'
       go_simp
       with_reducible rfl
      rotate_left
      ·simp only [Act.put, List.setIfInBounds_toArray, List.set_cons_zero, List.set_cons_succ, zg, zi]
       rfl
      refine xf (i := 7) (N := some 4) (v := ?_) (a' := ?_) #[true, true, true, true, true, true, true, true] rfl rfl (xw HT_.out yg) (fun _ _ _ h => h) (Or.inl ⟨by rfl, ?_⟩) ?_ ?_
      rotate_left
      ·intro w'
       go_simp
       with_reducible rfl
      rotate_left
      ·simp only [Act.put, List.setIfInBounds_toArray, List.set_cons_zero, List.set_cons_succ, zg, zi]
       rfl
      refine done_ (done_of HT_.out yg) ?_
      try go_wp2
      go_ret
      exact ⟨by first | rfl | (simp [qi, qj] <;> rfl) | (simp [*, qi, qj] <;> rfl), by repeat (first | (with_reducible first | exact HB.out | apply qb | apply qa | apply qc | refine qh ?_ GE179.out | refine qh ?_ GE180.out) | exact HB.out)⟩
  ·rw [if_neg c5] at H
   have c5b0 : (t181 == 0) = false := beq_eq_false_iff_ne.mpr c5
   have c5b1 : (t181 != 0) = true := bne_iff_ne.mpr c5
   by_cases c34 : t181 = 1
   ·rw [if_pos c34] at H
    have c34b0 : (t181 == 1) = true := beq_iff_eq.mpr c34
    have c34b1 : (t181 != 1) = false := bne_eq_false_iff_eq.mpr c34
    clear c34
    replace H := Option.bind_eq_some_iff.mp H
    obtain ⟨t187, A350, H⟩ := H
    replace H : ((zu.f a1_1).bind fun t188 => (some (t187.toList == t188.toList))) = some r := H
    have A35 := qd.mk A350
    clear A350
    replace H := Option.bind_eq_some_iff.mp H
    obtain ⟨t188, A360, H⟩ := H
    replace H : (some (t187.toList == t188.toList)) = some r := H
    have A36 := qd.mk A360
    clear A360
    obtain rfl := Option.some.inj H
    go_enter Tryz.func39, Tryz.ntmps39
    try go_wp2_with (first | ((with_reducible refine q8 (N := 2) rfl ?_); refine zh ?hg (N := 2) ?hd (cs := #[.int .i64 a0_0, .string a0_1, .slice A0_2 l0_2.length c0_2]) (t := 32) ?hr ?_; (case hd => rfl); (case hg => rfl); (case hr => first | (go_simp; done) | (go_simp; rfl)); intro gb179 hg w37 hbox hb; have n0_ := qd.mk (qf cu hb); have n1_ := qd.mk (hbox); have n2_ := qd.mk ((by rw [hg]; exact (qo cu) : w.heap.size ≤ gb179)); have n3_ := qd.mk ((by rw [hg]; exact (qo cu) : w.heap.size ≤ gb179)); clear HB; have HB := n0_; have BK179 := n1_; have GW179 := n2_; have GE179 := n3_; clear n0_ n1_ n2_ n3_; clear hb hbox hg) | ((with_reducible refine q8 (N := 3) rfl ?_); refine zh ?hg (N := 3) ?hd (cs := #[.int .i64 a1_0, .string a1_1, .slice A1_2 l1_2.length c1_2]) (t := 32) ?hr ?_; (case hd => rfl); (case hg => rfl); (case hr => first | (go_simp; done) | (go_simp; rfl)); intro gb180 hg w38 hbox hb; have n0_ := qd.mk (qx (g := gb179) (o := .cells #[.int .i64 a0_0, .string a0_1, .slice A0_2 l0_2.length c0_2] 32 (0, 0)) yh hb); have n1_ := qd.mk (qf ym hb); have n2_ := qd.mk (hbox); have n3_ := qd.mk ((by rw [hg]; exact (qo ym) : w.heap.size ≤ gb180)); have n4_ := qd.mk ((by rw [hg]; exact (qo ym) : w.heap.size ≤ gb180)); have n5_ := qd.mk ((by rw [hg]; exact Nat.ne_of_lt (zo (g := gb179) (o := .cells #[.int .i64 a0_0, .string a0_1, .slice A0_2 l0_2.length c0_2] 32 (0, 0)) yh) : gb179 ≠ gb180)); have n6_ := qd.mk ((by rw [hg]; exact Nat.ne_of_gt (zo (g := gb179) (o := .cells #[.int .i64 a0_0, .string a0_1, .slice A0_2 l0_2.length c0_2] 32 (0, 0)) yh) : gb180 ≠ gb179)); clear BK179; clear HB; have BK179 := n0_; have HB := n1_; have BK180 := n2_; have GW180 := n3_; have GE180 := n4_; have NB179_180 := n5_; have NB180_179 := n6_; clear n0_ n1_ n2_ n3_ n4_ n5_ n6_; clear hb hbox hg; have hnb39 := NB179_180.out; have hnc39 := NB180_179.out; have hcz40_0 : w38.cell? ⟨gb179, 0, none⟩ = some (.int .i64 a0_0) := (qe BK179.out 0).trans rfl; have hcz40_1 : w38.cell? ⟨gb179, 1, none⟩ = some (.string a0_1) := (qe BK179.out 1).trans rfl; have hcz40_2 : w38.cell? ⟨gb179, 2, none⟩ = some (.slice A0_2 l0_2.length c0_2) := (qe BK179.out 2).trans rfl; have hfz40_0 := qg BK179.out 0; have hfz40_1 := qg BK179.out 1; have hfz40_2 := qg BK179.out 2; have hcz41_0 : w38.cell? ⟨gb180, 0, none⟩ = some (.int .i64 a1_0) := (qe BK180.out 0).trans rfl; have hcz41_1 : w38.cell? ⟨gb180, 1, none⟩ = some (.string a1_1) := (qe BK180.out 1).trans rfl; have hcz41_2 : w38.cell? ⟨gb180, 2, none⟩ = some (.slice A1_2 l1_2.length c1_2) := (qe BK180.out 2).trans rfl; have hfz41_0 := qg BK180.out 0; have hfz41_1 := qg BK180.out 1; have hfz41_2 := qg BK180.out 2) | ((with_reducible refine qp (f := 65) rfl ?_); refine za (some 12) rfl rfl Tryz.func65 yg rfl #[.int .i64 a0_0] rfl cz ?_; (with_reducible refine (xj.calls a0_0 t181 _ A4.out).mono ?_); rintro e w' ⟨rfl, ⟨nd, rfl⟩⟩; refine ⟨_, rfl, ?_⟩))
    (try (rw [drewN_self w38]; generalize hq_ : World.drewN w38 _ = w38; have n0_ : qd (w38.heap[gb179]? = some (.cells #[.int .i64 a0_0, .string a0_1, .slice A0_2 l0_2.length c0_2] 32 (0, 0))) := ⟨by rw [← hq_]; exact yh⟩; have n1_ : qd (w38.heap[gb180]? = some (.cells #[.int .i64 a1_0, .string a1_1, .slice A1_2 l1_2.length c1_2] 32 (0, 0))) := ⟨by rw [← hq_]; exact yw⟩; have n2_ : qd (Below w.heap.size w w38) := ⟨by rw [← hq_]; exact yj⟩; clear BK179 BK180 HB hq_; have BK179 := n0_; have BK180 := n1_; have HB := n2_; clear n0_ n1_ n2_))
    have n0_ := qd.mk (qn BK179.out)
    have n1_ := qd.mk (qn BK180.out)
    have n2_ := qd.mk (qc HB.out)
    clear BK179
    clear BK180
    clear HB
    have BK179 := n0_
    have BK180 := n1_
    have HB := n2_
    clear n0_ n1_ n2_
    refine start_ (n := 8) (S := fun w' => w'.cell? ⟨gb179, 0, none⟩ = some (.int .i64 a0_0) ∧ w'.cell? ⟨gb179, 1, none⟩ = some (.string a0_1) ∧ w'.cell? ⟨gb179, 2, none⟩ = some (.slice A0_2 l0_2.length c0_2) ∧ w'.cell? ⟨gb180, 0, none⟩ = some (.int .i64 a1_0) ∧ w'.cell? ⟨gb180, 1, none⟩ = some (.string a1_1) ∧ w'.cell? ⟨gb180, 2, none⟩ = some (.slice A1_2 l1_2.length c1_2)) (ds := []) #[false, false, false, false, false, false, false, false] yg rfl rfl ⟨(qe BK179.out 0).trans rfl, (qe BK179.out 1).trans rfl, (qe BK179.out 2).trans rfl, (qe BK180.out 0).trans rfl, (qe BK180.out 1).trans rfl, (qe BK180.out 2).trans rfl⟩ (fun hHeld => ?_); refine with_tabW qz.tab9 qz.bits9 (fun HT_ HW_ => ?_)
    generalize w38.drew = w42 at BK179 BK180 HB hHeld ⊢
    refine xf (i := 0) (N := some 37) (v := ?_) (a' := ?_) #[true, false, false, false, false, false, false, false] rfl rfl (xw HT_.out yg) (fun _ _ _ h => h) (Or.inl ⟨by rfl, ?_⟩) ?_ ?_
    rotate_left
    ·intro w'
     go_simp
     with_reducible rfl
    rotate_left
    ·simp only [Act.put, List.setIfInBounds_toArray, List.set_cons_zero, List.set_cons_succ, zg, zi]
     rfl
    refine xf (i := 3) (N := some 40) (v := ?_) (a' := ?_) #[true, false, false, true, false, false, false, false] rfl rfl (xw HT_.out yg) (fun _ _ _ h => h) (Or.inl ⟨by rfl, ?_⟩) ?_ ?_
    rotate_left
    ·intro w'
     go_simp
     with_reducible rfl
    rotate_left
    ·simp only [Act.put, List.setIfInBounds_toArray, List.set_cons_zero, List.set_cons_succ, zg, zi]
     rfl
    refine take_ (i := 1) (N := some 38) (v := ?_) (a' := ?_) #[true, true, false, true, false, false, false, false] rfl rfl (xu HT_.out HW_.out yg) (fun _ _ _ h => h) (Or.inl ⟨by rfl, ?_⟩) hHeld ?_ ?_
    rotate_left
    ·rintro w' ⟨s0, s1, s2, s3, s4, s5⟩
     go_simp
     with_reducible rfl
    rotate_left
    ·simp only [Act.put, List.setIfInBounds_toArray, List.set_cons_zero, List.set_cons_succ, zg, zi]
     rfl
    refine take_ (i := 4) (N := some 41) (v := ?_) (a' := ?_) #[true, true, false, true, true, false, false, false] rfl rfl (xu HT_.out HW_.out yg) (fun _ _ _ h => h) (Or.inl ⟨by rfl, ?_⟩) hHeld ?_ ?_
    rotate_left
    ·rintro w' ⟨s0, s1, s2, s3, s4, s5⟩
     go_simp
     with_reducible rfl
    rotate_left
    ·simp only [Act.put, List.setIfInBounds_toArray, List.set_cons_zero, List.set_cons_succ, zg, zi]
     rfl
    refine one_ (i := 2) (N := some 39) #[true, true, true, true, true, false, false, false] rfl rfl (one_of HT_.out yg) (by decide) (fun K hK => ?_)
    refine goes_ Tryz.func77 yg rfl #[.string a0_1] (by rfl) rfl rfl cz ?_
    with_reducible refine (zu.calls a0_1 t187 _ A35.out).mono ?_
    rintro e w43 ⟨rfl, hb⟩
    refine ⟨_, rfl, ?_⟩
    have n0_ := qd.mk (qx (g := gb179) (o := .cells #[.int .i64 a0_0, .string a0_1, .slice A0_2 l0_2.length c0_2] 32 (0, 0)) yh hb)
    have n1_ := qd.mk (qx (g := gb180) (o := .cells #[.int .i64 a1_0, .string a1_1, .slice A1_2 l1_2.length c1_2] 32 (0, 0)) yw hb)
    have n2_ := qd.mk (qf yj hb)
    clear BK179
    clear BK180
    clear HB
    have BK179 := n0_
    have BK180 := n1_
    have HB := n2_
    clear n0_ n1_ n2_
    (try clear hb)
    (try clear hb2)
    (try clear hk)
    (try clear hi)
    refine hK.out _ _ ⟨(qe BK179.out 0).trans rfl, (qe BK179.out 1).trans rfl, (qe BK179.out 2).trans rfl, (qe BK180.out 0).trans rfl, (qe BK180.out 1).trans rfl, (qe BK180.out 2).trans rfl⟩ (fun hHeld => ?_)
    clear hK K
    refine norm_ (a' := ?_) ?_ ?_
    rotate_left
    ·show Act.put _ (some 39) _ = _
     simp only [Act.put, List.setIfInBounds_toArray, List.set_cons_zero, List.set_cons_succ, zg, zi]
     rfl
    refine one_ (i := 5) (N := some 42) #[true, true, true, true, true, true, false, false] rfl rfl (one_of HT_.out yg) (by decide) (fun K hK => ?_)
    refine goes_ Tryz.func77 yg rfl #[.string a1_1] (by rfl) rfl rfl cz ?_
    with_reducible refine (zu.calls a1_1 t188 _ A36.out).mono ?_
    rintro e w44 ⟨rfl, hb⟩
    refine ⟨_, rfl, ?_⟩
    have n0_ := qd.mk (qx (g := gb179) (o := .cells #[.int .i64 a0_0, .string a0_1, .slice A0_2 l0_2.length c0_2] 32 (0, 0)) yh hb)
    have n1_ := qd.mk (qx (g := gb180) (o := .cells #[.int .i64 a1_0, .string a1_1, .slice A1_2 l1_2.length c1_2] 32 (0, 0)) yw hb)
    have n2_ := qd.mk (qf yj hb)
    clear BK179
    clear BK180
    clear HB
    have BK179 := n0_
    have BK180 := n1_
    have HB := n2_
    clear n0_ n1_ n2_
    (try clear hb)
    (try clear hb2)
    (try clear hk)
    (try clear hi)
    refine hK.out _ _ ⟨(qe BK179.out 0).trans rfl, (qe BK179.out 1).trans rfl, (qe BK179.out 2).trans rfl, (qe BK180.out 0).trans rfl, (qe BK180.out 1).trans rfl, (qe BK180.out 2).trans rfl⟩ (fun hHeld => ?_)
    clear hK K
    refine norm_ (a' := ?_) ?_ ?_
    rotate_left
    ·show Act.put _ (some 42) _ = _
     simp only [Act.put, List.setIfInBounds_toArray, List.set_cons_zero, List.set_cons_succ, zg, zi]
     rfl
    refine xf (i := 6) (N := some 43) (v := ?_) (a' := ?_) #[true, true, true, true, true, true, true, false] rfl rfl (xw HT_.out yg) (fun _ _ _ h => h) (Or.inl ⟨by rfl, ?_⟩) ?_ ?_
    rotate_left
    ·intro w'
     go_simp
     with_reducible rfl
    rotate_left
    ·simp only [Act.put, List.setIfInBounds_toArray, List.set_cons_zero, List.set_cons_succ, zg, zi]
     rfl
    refine xf (i := 7) (N := some 4) (v := ?_) (a' := ?_) #[true, true, true, true, true, true, true, true] rfl rfl (xw HT_.out yg) (fun _ _ _ h => h) (Or.inl ⟨by rfl, ?_⟩) ?_ ?_
    rotate_left
    ·intro w'
     go_simp
     with_reducible rfl
    rotate_left
    ·simp only [Act.put, List.setIfInBounds_toArray, List.set_cons_zero, List.set_cons_succ, zg, zi]
     rfl
    refine done_ (done_of HT_.out yg) ?_
    try go_wp2
    go_ret
    exact ⟨by first | rfl | (simp [qi, qj] <;> rfl) | (simp [*, qi, qj] <;> rfl), by repeat (first | (with_reducible first | exact HB.out | apply qb | apply qa | apply qc | refine qh ?_ GE179.out | refine qh ?_ GE180.out) | exact HB.out)⟩
   ·rw [if_neg c34] at H
    have c34b0 : (t181 == 1) = false := beq_eq_false_iff_ne.mpr c34
    have c34b1 : (t181 != 1) = true := bne_iff_ne.mpr c34
    by_cases c45 : t181 = 2
    ·rw [if_pos c45] at H
     have c45b0 : (t181 == 2) = true := beq_iff_eq.mpr c45
     have c45b1 : (t181 != 2) = false := bne_eq_false_iff_eq.mpr c45
     clear c45
     replace H := Option.bind_eq_some_iff.mp H
     obtain ⟨t189, A460, H⟩ := H
     replace H : (some t189) = some r := H
     have A46 := qd.mk A460
     clear A460
     obtain rfl := Option.some.inj H
     go_enter Tryz.func39, Tryz.ntmps39
     go_wp2_with (first | ((with_reducible refine q8 (N := 2) rfl ?_); refine zh ?hg (N := 2) ?hd (cs := #[.int .i64 a0_0, .string a0_1, .slice A0_2 l0_2.length c0_2]) (t := 32) ?hr ?_; (case hd => rfl); (case hg => rfl); (case hr => first | (go_simp; done) | (go_simp; rfl)); intro gb179 hg w47 hbox hb; have n0_ := qd.mk (qf cu hb); have n1_ := qd.mk (hbox); have n2_ := qd.mk ((by rw [hg]; exact (qo cu) : w.heap.size ≤ gb179)); have n3_ := qd.mk ((by rw [hg]; exact (qo cu) : w.heap.size ≤ gb179)); clear HB; have HB := n0_; have BK179 := n1_; have GW179 := n2_; have GE179 := n3_; clear n0_ n1_ n2_ n3_; clear hb hbox hg) | ((with_reducible refine q8 (N := 3) rfl ?_); refine zh ?hg (N := 3) ?hd (cs := #[.int .i64 a1_0, .string a1_1, .slice A1_2 l1_2.length c1_2]) (t := 32) ?hr ?_; (case hd => rfl); (case hg => rfl); (case hr => first | (go_simp; done) | (go_simp; rfl)); intro gb180 hg w48 hbox hb; have n0_ := qd.mk (qx (g := gb179) (o := .cells #[.int .i64 a0_0, .string a0_1, .slice A0_2 l0_2.length c0_2] 32 (0, 0)) yh hb); have n1_ := qd.mk (qf ym hb); have n2_ := qd.mk (hbox); have n3_ := qd.mk ((by rw [hg]; exact (qo ym) : w.heap.size ≤ gb180)); have n4_ := qd.mk ((by rw [hg]; exact (qo ym) : w.heap.size ≤ gb180)); have n5_ := qd.mk ((by rw [hg]; exact Nat.ne_of_lt (zo (g := gb179) (o := .cells #[.int .i64 a0_0, .string a0_1, .slice A0_2 l0_2.length c0_2] 32 (0, 0)) yh) : gb179 ≠ gb180)); have n6_ := qd.mk ((by rw [hg]; exact Nat.ne_of_gt (zo (g := gb179) (o := .cells #[.int .i64 a0_0, .string a0_1, .slice A0_2 l0_2.length c0_2] 32 (0, 0)) yh) : gb180 ≠ gb179)); clear BK179; clear HB; have BK179 := n0_; have HB := n1_; have BK180 := n2_; have GW180 := n3_; have GE180 := n4_; have NB179_180 := n5_; have NB180_179 := n6_; clear n0_ n1_ n2_ n3_ n4_ n5_ n6_; clear hb hbox hg; have hnb49 := NB179_180.out; have hnc49 := NB180_179.out; have hcz50_0 : w48.cell? ⟨gb179, 0, none⟩ = some (.int .i64 a0_0) := (qe BK179.out 0).trans rfl; have hcz50_1 : w48.cell? ⟨gb179, 1, none⟩ = some (.string a0_1) := (qe BK179.out 1).trans rfl; have hcz50_2 : w48.cell? ⟨gb179, 2, none⟩ = some (.slice A0_2 l0_2.length c0_2) := (qe BK179.out 2).trans rfl; have hfz50_0 := qg BK179.out 0; have hfz50_1 := qg BK179.out 1; have hfz50_2 := qg BK179.out 2; have hcz51_0 : w48.cell? ⟨gb180, 0, none⟩ = some (.int .i64 a1_0) := (qe BK180.out 0).trans rfl; have hcz51_1 : w48.cell? ⟨gb180, 1, none⟩ = some (.string a1_1) := (qe BK180.out 1).trans rfl; have hcz51_2 : w48.cell? ⟨gb180, 2, none⟩ = some (.slice A1_2 l1_2.length c1_2) := (qe BK180.out 2).trans rfl; have hfz51_0 := qg BK180.out 0; have hfz51_1 := qg BK180.out 1; have hfz51_2 := qg BK180.out 2) | ((with_reducible refine qp (f := 65) rfl ?_); refine za (some 12) rfl rfl Tryz.func65 yg rfl #[.int .i64 a0_0] rfl cz ?_; (with_reducible refine (xj.calls a0_0 t181 _ A4.out).mono ?_); rintro e w' ⟨rfl, ⟨nd, rfl⟩⟩; refine ⟨_, rfl, ?_⟩) | ((with_reducible refine qp (f := 78) rfl ?_); refine za (some 50) rfl rfl Tryz.func78 yg rfl #[.agg #[.slice A0_2 l0_2.length c0_2], .agg #[.slice A1_2 l1_2.length c1_2]] rfl cz ?_; (with_reducible refine (xb.calls k _ _ l0_2 _ _ l1_2 t189 _ ?side1 ?side2 ?side3 ?side4 A46.out).mono ?_); (case side1 => repeat (first | exact (Kd.xh HR0_2.out yj) | (with_reducible refine Kd.xm ?_ _) | (with_reducible refine Kd.xl ?_ _) | (with_reducible refine Kd.xx ?_))); (case side2 => exact HC0_2.out); (case side3 => repeat (first | exact (Kd.xh HR1_2.out yj) | (with_reducible refine Kd.xm ?_ _) | (with_reducible refine Kd.xl ?_ _) | (with_reducible refine Kd.xx ?_))); (case side4 => exact HC1_2.out); rintro e w52 ⟨rfl, hb⟩; refine ⟨_, rfl, ?_⟩; have n0_ := qd.mk (qx (g := gb179) (o := .cells #[.int .i64 a0_0, .string a0_1, .slice A0_2 l0_2.length c0_2] 32 (0, 0)) yh hb); have n1_ := qd.mk (qx (g := gb180) (o := .cells #[.int .i64 a1_0, .string a1_1, .slice A1_2 l1_2.length c1_2] 32 (0, 0)) yw hb); have n2_ := qd.mk (qf yj hb); clear BK179; clear BK180; clear HB; have BK179 := n0_; have BK180 := n1_; have HB := n2_; clear n0_ n1_ n2_; (try clear hb); (try clear hb2); (try clear hk); (try clear hi)))
     go_ret
     exact ⟨by first | rfl | (simp [qi, qj] <;> rfl) | (simp [*, qi, qj] <;> rfl), by repeat (first | (with_reducible first | exact HB.out | apply qb | apply qa | apply qc | refine qh ?_ GE179.out | refine qh ?_ GE180.out) | exact HB.out)⟩
    ·rw [if_neg c45] at H
     have c45b0 : (t181 == 2) = false := beq_eq_false_iff_ne.mpr c45
     have c45b1 : (t181 != 2) = true := bne_iff_ne.mpr c45
     by_cases c53 : t181 = 3
     ·rw [if_pos c53] at H
      have c53b0 : (t181 == 3) = true := beq_iff_eq.mpr c53
      have c53b1 : (t181 != 3) = false := bne_eq_false_iff_eq.mpr c53
      clear c53
      obtain rfl := Option.some.inj H
      go_enter Tryz.func39, Tryz.ntmps39
      go_wp2_with (first | ((with_reducible refine q8 (N := 2) rfl ?_); refine zh ?hg (N := 2) ?hd (cs := #[.int .i64 a0_0, .string a0_1, .slice A0_2 l0_2.length c0_2]) (t := 32) ?hr ?_; (case hd => rfl); (case hg => rfl); (case hr => first | (go_simp; done) | (go_simp; rfl)); intro gb179 hg w54 hbox hb; have n0_ := qd.mk (qf cu hb); have n1_ := qd.mk (hbox); have n2_ := qd.mk ((by rw [hg]; exact (qo cu) : w.heap.size ≤ gb179)); have n3_ := qd.mk ((by rw [hg]; exact (qo cu) : w.heap.size ≤ gb179)); clear HB; have HB := n0_; have BK179 := n1_; have GW179 := n2_; have GE179 := n3_; clear n0_ n1_ n2_ n3_; clear hb hbox hg) | ((with_reducible refine q8 (N := 3) rfl ?_); refine zh ?hg (N := 3) ?hd (cs := #[.int .i64 a1_0, .string a1_1, .slice A1_2 l1_2.length c1_2]) (t := 32) ?hr ?_; (case hd => rfl); (case hg => rfl); (case hr => first | (go_simp; done) | (go_simp; rfl)); intro gb180 hg w55 hbox hb; have n0_ := qd.mk (qx (g := gb179) (o := .cells #[.int .i64 a0_0, .string a0_1, .slice A0_2 l0_2.length c0_2] 32 (0, 0)) yh hb); have n1_ := qd.mk (qf ym hb); have n2_ := qd.mk (hbox); have n3_ := qd.mk ((by rw [hg]; exact (qo ym) : w.heap.size ≤ gb180)); have n4_ := qd.mk ((by rw [hg]; exact (qo ym) : w.heap.size ≤ gb180)); have n5_ := qd.mk ((by rw [hg]; exact Nat.ne_of_lt (zo (g := gb179) (o := .cells #[.int .i64 a0_0, .string a0_1, .slice A0_2 l0_2.length c0_2] 32 (0, 0)) yh) : gb179 ≠ gb180)); have n6_ := qd.mk ((by rw [hg]; exact Nat.ne_of_gt (zo (g := gb179) (o := .cells #[.int .i64 a0_0, .string a0_1, .slice A0_2 l0_2.length c0_2] 32 (0, 0)) yh) : gb180 ≠ gb179)); clear BK179; clear HB; have BK179 := n0_; have HB := n1_; have BK180 := n2_; have GW180 := n3_; have GE180 := n4_; have NB179_180 := n5_; have NB180_179 := n6_; clear n0_ n1_ n2_ n3_ n4_ n5_ n6_; clear hb hbox hg; have hnb56 := NB179_180.out; have hnc56 := NB180_179.out; have hcz57_0 : w55.cell? ⟨gb179, 0, none⟩ = some (.int .i64 a0_0) := (qe BK179.out 0).trans rfl; have hcz57_1 : w55.cell? ⟨gb179, 1, none⟩ = some (.string a0_1) := (qe BK179.out 1).trans rfl; have hcz57_2 : w55.cell? ⟨gb179, 2, none⟩ = some (.slice A0_2 l0_2.length c0_2) := (qe BK179.out 2).trans rfl; have hfz57_0 := qg BK179.out 0; have hfz57_1 := qg BK179.out 1; have hfz57_2 := qg BK179.out 2; have hcz58_0 : w55.cell? ⟨gb180, 0, none⟩ = some (.int .i64 a1_0) := (qe BK180.out 0).trans rfl; have hcz58_1 : w55.cell? ⟨gb180, 1, none⟩ = some (.string a1_1) := (qe BK180.out 1).trans rfl; have hcz58_2 : w55.cell? ⟨gb180, 2, none⟩ = some (.slice A1_2 l1_2.length c1_2) := (qe BK180.out 2).trans rfl; have hfz58_0 := qg BK180.out 0; have hfz58_1 := qg BK180.out 1; have hfz58_2 := qg BK180.out 2) | ((with_reducible refine qp (f := 65) rfl ?_); refine za (some 12) rfl rfl Tryz.func65 yg rfl #[.int .i64 a0_0] rfl cz ?_; (with_reducible refine (xj.calls a0_0 t181 _ A4.out).mono ?_); rintro e w' ⟨rfl, ⟨nd, rfl⟩⟩; refine ⟨_, rfl, ?_⟩))
      go_ret
      exact ⟨by first | rfl | (simp [qi, qj] <;> rfl) | (simp [*, qi, qj] <;> rfl), by repeat (first | (with_reducible first | exact HB.out | apply qb | apply qa | apply qc | refine qh ?_ GE179.out | refine qh ?_ GE180.out) | exact HB.out)⟩
     ·rw [if_neg c53] at H
      have c53b0 : (t181 == 3) = false := beq_eq_false_iff_ne.mpr c53
      have c53b1 : (t181 != 3) = true := bne_iff_ne.mpr c53
      obtain rfl := Option.some.inj H
      go_enter Tryz.func39, Tryz.ntmps39
      go_wp2_with (first | ((with_reducible refine q8 (N := 2) rfl ?_); refine zh ?hg (N := 2) ?hd (cs := #[.int .i64 a0_0, .string a0_1, .slice A0_2 l0_2.length c0_2]) (t := 32) ?hr ?_; (case hd => rfl); (case hg => rfl); (case hr => first | (go_simp; done) | (go_simp; rfl)); intro gb179 hg w59 hbox hb; have n0_ := qd.mk (qf cu hb); have n1_ := qd.mk (hbox); have n2_ := qd.mk ((by rw [hg]; exact (qo cu) : w.heap.size ≤ gb179)); have n3_ := qd.mk ((by rw [hg]; exact (qo cu) : w.heap.size ≤ gb179)); clear HB; have HB := n0_; have BK179 := n1_; have GW179 := n2_; have GE179 := n3_; clear n0_ n1_ n2_ n3_; clear hb hbox hg) | ((with_reducible refine q8 (N := 3) rfl ?_); refine zh ?hg (N := 3) ?hd (cs := #[.int .i64 a1_0, .string a1_1, .slice A1_2 l1_2.length c1_2]) (t := 32) ?hr ?_; (case hd => rfl); (case hg => rfl); (case hr => first | (go_simp; done) | (go_simp; rfl)); intro gb180 hg w60 hbox hb; have n0_ := qd.mk (qx (g := gb179) (o := .cells #[.int .i64 a0_0, .string a0_1, .slice A0_2 l0_2.length c0_2] 32 (0, 0)) yh hb); have n1_ := qd.mk (qf ym hb); have n2_ := qd.mk (hbox); have n3_ := qd.mk ((by rw [hg]; exact (qo ym) : w.heap.size ≤ gb180)); have n4_ := qd.mk ((by rw [hg]; exact (qo ym) : w.heap.size ≤ gb180)); have n5_ := qd.mk ((by rw [hg]; exact Nat.ne_of_lt (zo (g := gb179) (o := .cells #[.int .i64 a0_0, .string a0_1, .slice A0_2 l0_2.length c0_2] 32 (0, 0)) yh) : gb179 ≠ gb180)); have n6_ := qd.mk ((by rw [hg]; exact Nat.ne_of_gt (zo (g := gb179) (o := .cells #[.int .i64 a0_0, .string a0_1, .slice A0_2 l0_2.length c0_2] 32 (0, 0)) yh) : gb180 ≠ gb179)); clear BK179; clear HB; have BK179 := n0_; have HB := n1_; have BK180 := n2_; have GW180 := n3_; have GE180 := n4_; have NB179_180 := n5_; have NB180_179 := n6_; clear n0_ n1_ n2_ n3_ n4_ n5_ n6_; clear hb hbox hg; have hnb61 := NB179_180.out; have hnc61 := NB180_179.out; have hcz62_0 : w60.cell? ⟨gb179, 0, none⟩ = some (.int .i64 a0_0) := (qe BK179.out 0).trans rfl; have hcz62_1 : w60.cell? ⟨gb179, 1, none⟩ = some (.string a0_1) := (qe BK179.out 1).trans rfl; have hcz62_2 : w60.cell? ⟨gb179, 2, none⟩ = some (.slice A0_2 l0_2.length c0_2) := (qe BK179.out 2).trans rfl; have hfz62_0 := qg BK179.out 0; have hfz62_1 := qg BK179.out 1; have hfz62_2 := qg BK179.out 2; have hcz63_0 : w60.cell? ⟨gb180, 0, none⟩ = some (.int .i64 a1_0) := (qe BK180.out 0).trans rfl; have hcz63_1 : w60.cell? ⟨gb180, 1, none⟩ = some (.string a1_1) := (qe BK180.out 1).trans rfl; have hcz63_2 : w60.cell? ⟨gb180, 2, none⟩ = some (.slice A1_2 l1_2.length c1_2) := (qe BK180.out 2).trans rfl; have hfz63_0 := qg BK180.out 0; have hfz63_1 := qg BK180.out 1; have hfz63_2 := qg BK180.out 2) | ((with_reducible refine qp (f := 65) rfl ?_); refine za (some 12) rfl rfl Tryz.func65 yg rfl #[.int .i64 a0_0] rfl cz ?_; (with_reducible refine (xj.calls a0_0 t181 _ A4.out).mono ?_); rintro e w' ⟨rfl, ⟨nd, rfl⟩⟩; refine ⟨_, rfl, ?_⟩))
      go_ret
      exact ⟨by first | rfl | (simp [qi, qj] <;> rfl) | (simp [*, qi, qj] <;> rfl), by repeat (first | (with_reducible first | exact HB.out | apply qb | apply qa | apply qc | refine qh ?_ GE179.out | refine qh ?_ GE180.out) | exact HB.out)⟩
 ·rw [if_neg c3] at H
  have c3b0 : (a0_0 == a1_0) = false := beq_eq_false_iff_ne.mpr c3
  have c3b1 : (a0_0 != a1_0) = true := bne_iff_ne.mpr c3
  obtain rfl := Option.some.inj H
  go_enter Tryz.func39, Tryz.ntmps39
  go_wp2_with (first | ((with_reducible refine q8 (N := 2) rfl ?_); refine zh ?hg (N := 2) ?hd (cs := #[.int .i64 a0_0, .string a0_1, .slice A0_2 l0_2.length c0_2]) (t := 32) ?hr ?_; (case hd => rfl); (case hg => rfl); (case hr => first | (go_simp; done) | (go_simp; rfl)); intro gb179 hg w64 hbox hb; have n0_ := qd.mk (qf cu hb); have n1_ := qd.mk (hbox); have n2_ := qd.mk ((by rw [hg]; exact (qo cu) : w.heap.size ≤ gb179)); have n3_ := qd.mk ((by rw [hg]; exact (qo cu) : w.heap.size ≤ gb179)); clear HB; have HB := n0_; have BK179 := n1_; have GW179 := n2_; have GE179 := n3_; clear n0_ n1_ n2_ n3_; clear hb hbox hg) | ((with_reducible refine q8 (N := 3) rfl ?_); refine zh ?hg (N := 3) ?hd (cs := #[.int .i64 a1_0, .string a1_1, .slice A1_2 l1_2.length c1_2]) (t := 32) ?hr ?_; (case hd => rfl); (case hg => rfl); (case hr => first | (go_simp; done) | (go_simp; rfl)); intro gb180 hg w65 hbox hb; have n0_ := qd.mk (qx (g := gb179) (o := .cells #[.int .i64 a0_0, .string a0_1, .slice A0_2 l0_2.length c0_2] 32 (0, 0)) yh hb); have n1_ := qd.mk (qf ym hb); have n2_ := qd.mk (hbox); have n3_ := qd.mk ((by rw [hg]; exact (qo ym) : w.heap.size ≤ gb180)); have n4_ := qd.mk ((by rw [hg]; exact (qo ym) : w.heap.size ≤ gb180)); have n5_ := qd.mk ((by rw [hg]; exact Nat.ne_of_lt (zo (g := gb179) (o := .cells #[.int .i64 a0_0, .string a0_1, .slice A0_2 l0_2.length c0_2] 32 (0, 0)) yh) : gb179 ≠ gb180)); have n6_ := qd.mk ((by rw [hg]; exact Nat.ne_of_gt (zo (g := gb179) (o := .cells #[.int .i64 a0_0, .string a0_1, .slice A0_2 l0_2.length c0_2] 32 (0, 0)) yh) : gb180 ≠ gb179)); clear BK179; clear HB; have BK179 := n0_; have HB := n1_; have BK180 := n2_; have GW180 := n3_; have GE180 := n4_; have NB179_180 := n5_; have NB180_179 := n6_; clear n0_ n1_ n2_ n3_ n4_ n5_ n6_; clear hb hbox hg; have hnb66 := NB179_180.out; have hnc66 := NB180_179.out; have hcz67_0 : w65.cell? ⟨gb179, 0, none⟩ = some (.int .i64 a0_0) := (qe BK179.out 0).trans rfl; have hcz67_1 : w65.cell? ⟨gb179, 1, none⟩ = some (.string a0_1) := (qe BK179.out 1).trans rfl; have hcz67_2 : w65.cell? ⟨gb179, 2, none⟩ = some (.slice A0_2 l0_2.length c0_2) := (qe BK179.out 2).trans rfl; have hfz67_0 := qg BK179.out 0; have hfz67_1 := qg BK179.out 1; have hfz67_2 := qg BK179.out 2; have hcz68_0 : w65.cell? ⟨gb180, 0, none⟩ = some (.int .i64 a1_0) := (qe BK180.out 0).trans rfl; have hcz68_1 : w65.cell? ⟨gb180, 1, none⟩ = some (.string a1_1) := (qe BK180.out 1).trans rfl; have hcz68_2 : w65.cell? ⟨gb180, 2, none⟩ = some (.slice A1_2 l1_2.length c1_2) := (qe BK180.out 2).trans rfl; have hfz68_0 := qg BK180.out 0; have hfz68_1 := qg BK180.out 1; have hfz68_2 := qg BK180.out 2))
  go_ret
  exact ⟨by first | rfl | (simp [qi, qj] <;> rfl) | (simp [*, qi, qj] <;> rfl), by repeat (first | (with_reducible first | exact HB.out | apply qb | apply qa | apply qc | refine qh ?_ GE179.out | refine qh ?_ GE180.out) | exact HB.out)⟩
end Go.Proofs.YtlamfnaoemingaaGreatDoor.C
end
section
namespace Go.Proofs.YtlamfnaoemingaaGreatDoor.C
open Go.RowKit Go.Proofs.YtlamfnaoemingaaGreatDoorW.PrintWords Go.Proofs.YtlamfnaoemingaaGreatDoorW.PrintLast Go.Proofs.YtlamfnaoemingaaGreatDoorW.PrintMore
attribute [local go_sem] zw zx xe xd zn zp zy zz
set_option linter.unusedVariables false
set_option linter.unusedSimpArgs false
def stringslite_HasPrefix.f (a0 : ByteArray) (a1 : ByteArray) : Option (Bool) := if (a0.size : Int) ≥ (a1.size : Int) then (if 0 ≤ (a1.size : Int) then (if (a1.size : Int) ≤ (a0.size : Int) then (some ((a0.extract 0 ((a1.size : Int) : Int).toNat).toList == a1.toList)) else (none)) else (none)) else (some false)
set_option maxHeartbeats 8000000 in
set_option maxRecDepth 100000 in
theorem stringslite_HasPrefix.calls (a0 : ByteArray) (a1 : ByteArray) (r : Bool) (w : World) (h : stringslite_HasPrefix.f a0 a1 = some r) :
  Calls Tryz.prog 168 #[.string a0, .string a1] w fun e w' => e = .returned (.bool r) ∧ qy w w' := by
 have H : (if (a0.size : Int) ≥ (a1.size : Int) then (if 0 ≤ (a1.size : Int) then (if (a1.size : Int) ≤ (a0.size : Int) then (some ((a0.extract 0 ((a1.size : Int) : Int).toNat).toList == a1.toList)) else (none)) else (none)) else (some false)) = some r := h
 clear h
 by_cases c3 : (a0.size : Int) ≥ (a1.size : Int)
 ·rw [if_pos c3] at H
  have c3b0 : decide ((a1.size : Int) ≤ (a0.size : Int)) = true := decide_eq_true c3
  have c3b1 : decide (a1.size ≤ a0.size) = true := decide_eq_true (Int.ofNat_le.mp c3)
  clear c3
  by_cases c4 : 0 ≤ (a1.size : Int)
  ·rw [if_pos c4] at H
   have c4b0 := eq_true c4
   have c4b1 : decide (0 ≤ (a1.size : Int)) = true := decide_eq_true c4
   clear c4
   by_cases c5 : (a1.size : Int) ≤ (a0.size : Int)
   ·rw [if_pos c5] at H
    have c5b0 := eq_true c5
    have c5b1 : decide ((a1.size : Int) ≤ (a0.size : Int)) = true := decide_eq_true c5
    clear c5
    obtain rfl := Option.some.inj H
    go_enter Tryz.func168, Tryz.ntmps168
    go_wp2
    go_ret
    exact ⟨by first | rfl | (simp; done) | (simp [*]; done), by repeat (first | exact qy.refl _ | apply qy.step)⟩
   ·rw [if_neg c5] at H
    exact absurd H y7
  ·rw [if_neg c4] at H
   exact absurd H y7
 ·rw [if_neg c3] at H
  have c3b0 : decide ((a1.size : Int) ≤ (a0.size : Int)) = false := decide_eq_false c3
  have c3b1 : decide (a1.size ≤ a0.size) = false := decide_eq_false (fun h => c3 (Int.ofNat_le.mpr h))
  clear c3
  obtain rfl := Option.some.inj H
  go_enter Tryz.func168, Tryz.ntmps168
  go_wp2
  go_ret
  exact ⟨by first | rfl | (simp; done) | (simp [*]; done), by repeat (first | exact qy.refl _ | apply qy.step)⟩
def stringslite_TrimPrefix.f (a0 : ByteArray) (a1 : ByteArray) : Option (ByteArray) := (stringslite_HasPrefix.f a0 a1).bind fun t190 => (if t190 = true then (if 0 ≤ (a1.size : Int) then (if (a1.size : Int) ≤ (a0.size : Int) then (some (a0.extract ((a1.size : Int) : Int).toNat a0.size)) else (none)) else (none)) else (some a0))
set_option maxHeartbeats 8000000 in
set_option maxRecDepth 100000 in
theorem stringslite_TrimPrefix.calls (a0 : ByteArray) (a1 : ByteArray) (r : ByteArray) (w : World) (h : stringslite_TrimPrefix.f a0 a1 = some r) :
  Calls Tryz.prog 161 #[.string a0, .string a1] w fun e w' => e = .returned (.string r) ∧ qy w w' := by
 have H : ((stringslite_HasPrefix.f a0 a1).bind fun t190 => (if t190 = true then (if 0 ≤ (a1.size : Int) then (if (a1.size : Int) ≤ (a0.size : Int) then (some (a0.extract ((a1.size : Int) : Int).toNat a0.size)) else (none)) else (none)) else (some a0))) = some r := h
 clear h
 replace H := Option.bind_eq_some_iff.mp H
 obtain ⟨t190, A30, H⟩ := H
 replace H : (if t190 = true then (if 0 ≤ (a1.size : Int) then (if (a1.size : Int) ≤ (a0.size : Int) then (some (a0.extract ((a1.size : Int) : Int).toNat a0.size)) else (none)) else (none)) else (some a0)) = some r := H
 have A3 := qd.mk A30
 clear A30
 by_cases c4 : t190 = true
 ·subst c4
  have H1 : (if 0 ≤ (a1.size : Int) then (if (a1.size : Int) ≤ (a0.size : Int) then (some (a0.extract ((a1.size : Int) : Int).toNat a0.size)) else (none)) else (none)) = some r := by rw [if_pos rfl] at H; exact H
  clear H
  have H := H1
  clear H1
  by_cases c5 : 0 ≤ (a1.size : Int)
  ·rw [if_pos c5] at H
   have c5b0 := eq_true c5
   have c5b1 : decide (0 ≤ (a1.size : Int)) = true := decide_eq_true c5
   clear c5
   by_cases c6 : (a1.size : Int) ≤ (a0.size : Int)
   ·rw [if_pos c6] at H
    have c6b0 := eq_true c6
    have c6b1 : decide ((a1.size : Int) ≤ (a0.size : Int)) = true := decide_eq_true c6
    clear c6
    obtain rfl := Option.some.inj H
    go_enter Tryz.func161, Tryz.ntmps161
    go_wp2_with (first | ((with_reducible refine qp (f := 168) rfl ?_); refine za (some 7) rfl rfl Tryz.func168 yg rfl #[.string a0, .string a1] rfl cz ?_; (with_reducible refine (stringslite_HasPrefix.calls a0 a1 true _ A3.out).mono ?_); rintro e w' ⟨rfl, ⟨nd, rfl⟩⟩; refine ⟨_, rfl, ?_⟩))
    go_ret
    exact ⟨by first | rfl | (simp; done) | (simp [*]; done), by repeat (first | exact qy.refl _ | apply qy.step)⟩
   ·rw [if_neg c6] at H
    exact absurd H y7
  ·rw [if_neg c5] at H
   exact absurd H y7
 ·replace c4 := Bool.eq_false_iff.mpr c4
  subst c4
  have H1 : (some a0) = some r := by rw [if_neg (show ¬ (false = true) by decide)] at H; exact H
  clear H
  have H := H1
  clear H1
  obtain rfl := Option.some.inj H
  go_enter Tryz.func161, Tryz.ntmps161
  go_wp2_with (first | ((with_reducible refine qp (f := 168) rfl ?_); refine za (some 7) rfl rfl Tryz.func168 yg rfl #[.string a0, .string a1] rfl cz ?_; (with_reducible refine (stringslite_HasPrefix.calls a0 a1 false _ A3.out).mono ?_); rintro e w' ⟨rfl, ⟨nd, rfl⟩⟩; refine ⟨_, rfl, ?_⟩))
  go_ret
  exact ⟨by first | rfl | (simp; done) | (simp [*]; done), by repeat (first | exact qy.refl _ | apply qy.step)⟩
def strings_TrimPrefix.f (a0 : ByteArray) (a1 : ByteArray) : Option (ByteArray) := (stringslite_TrimPrefix.f a0 a1).bind fun t191 => (some t191)
set_option maxHeartbeats 8000000 in
set_option maxRecDepth 100000 in
theorem strings_TrimPrefix.calls (a0 : ByteArray) (a1 : ByteArray) (r : ByteArray) (w : World) (h : strings_TrimPrefix.f a0 a1 = some r) :
  Calls Tryz.prog 132 #[.string a0, .string a1] w fun e w' => e = .returned (.string r) ∧ qy w w' := by
 have H : ((stringslite_TrimPrefix.f a0 a1).bind fun t191 => (some t191)) = some r := h
 clear h
 replace H := Option.bind_eq_some_iff.mp H
 obtain ⟨t191, A30, H⟩ := H
 replace H : (some t191) = some r := H
 have A3 := qd.mk A30
 clear A30
 obtain rfl := Option.some.inj H
 go_enter Tryz.func132, Tryz.ntmps132
 go_wp2_with (first | ((with_reducible refine qp (f := 161) rfl ?_); refine za (some 7) rfl rfl Tryz.func161 yg rfl #[.string a0, .string a1] rfl cz ?_; (with_reducible refine (stringslite_TrimPrefix.calls a0 a1 t191 _ A3.out).mono ?_); rintro e w' ⟨rfl, ⟨nd, rfl⟩⟩; refine ⟨_, rfl, ?_⟩))
 go_ret
 exact ⟨by first | rfl | (simp; done) | (simp [*]; done), by repeat (first | exact qy.refl _ | apply qy.step)⟩
def zj.f (k : Nat) (a0 : ByteArray) : Option (Bool) := if (a0.size : Int) ≤ 128 then ((q7.f k a0).bind fun t192 => (if t192 = true then (some true) else ((strings_TrimPrefix.f a0 (⟨#[46]⟩ : ByteArray)).bind fun t193 => ((q3.f k t193).bind fun t194 => (some t194))))) else (some false)
theorem zj.mono : ∀ a0 k, LeO (zj.f k a0) (zj.f (k + 1) a0) := by
 intro a0 k
 unfold zj.f
 repeat' first
   | (with_reducible exact q3.mono _ _)
   | (with_reducible exact q7.mono _ _)
   | (with_reducible exact LeO.refl _)
   | (with_reducible exact LeO.none _)
   | (with_reducible refine LeO.ite ?_ ?_)
   | (with_reducible refine LeO.bind ?_ (fun _ => ?_))
set_option maxHeartbeats 8000000 in
set_option maxRecDepth 100000 in
theorem zj.calls (k : Nat) (a0 : ByteArray) (r : Bool) (w : World) (hG : LibHeld w) (h : zj.f k a0 = some r) :
  Calls Tryz.prog 105 #[.string a0] w fun e w' => e = .returned (.bool r) ∧ Below w.heap.size w w' := by
 have HG := qd.mk hG
 clear hG
 have HB := qd.mk (Below.refl w.heap.size w)
 have H : (if (a0.size : Int) ≤ 128 then ((q7.f k a0).bind fun t192 => (if t192 = true then (some true) else ((strings_TrimPrefix.f a0 (⟨#[46]⟩ : ByteArray)).bind fun t193 => ((q3.f k t193).bind fun t194 => (some t194))))) else (some false)) = some r := h
 clear h
 by_cases c2 : (a0.size : Int) ≤ 128
 ·rw [if_pos c2] at H
  have c2b0 : decide ((a0.size : Int) ≤ 128) = true := decide_eq_true c2
  have c2b1 : decide (a0.size ≤ 128) = true := decide_eq_true yo
  clear c2
  replace H := Option.bind_eq_some_iff.mp H
  obtain ⟨t192, A30, H⟩ := H
  replace H : (if t192 = true then (some true) else ((strings_TrimPrefix.f a0 (⟨#[46]⟩ : ByteArray)).bind fun t193 => ((q3.f k t193).bind fun t194 => (some t194)))) = some r := H
  have A3 := qd.mk A30
  clear A30
  by_cases c4 : t192 = true
  ·subst c4
   have H1 : (some true) = some r := by rw [if_pos rfl] at H; exact H
   clear H
   have H := H1
   clear H1
   obtain rfl := Option.some.inj H
   go_enter Tryz.func105, Tryz.ntmps105
   go_wp2_with (first | (go_at_call 75; (with_reducible refine (q7.calls k a0 true _ ?side1 A3.out).mono ?_); (case side1 => exact LibHeld.below HG.out cu); rintro e w5 ⟨rfl, hb⟩; have n0_ := qd.mk (qf cu hb); clear HB; have HB := n0_; clear n0_; (try clear hb); (try clear hb2); (try clear hk); (try clear hi)))
   go_ret
   exact ⟨by first | rfl | (simp [qi, qj] <;> rfl) | (simp [*, qi, qj] <;> rfl), by repeat (first | (with_reducible first | exact HB.out | apply qb | apply qa | apply qc) | exact HB.out)⟩
  ·replace c4 := Bool.eq_false_iff.mpr c4
   subst c4
   have H1 : ((strings_TrimPrefix.f a0 (⟨#[46]⟩ : ByteArray)).bind fun t193 => ((q3.f k t193).bind fun t194 => (some t194))) = some r := by rw [if_neg (show ¬ (false = true) by decide)] at H; exact H
   clear H
   have H := H1
   clear H1
   replace H := Option.bind_eq_some_iff.mp H
   obtain ⟨t193, A60, H⟩ := H
   replace H : ((q3.f k t193).bind fun t194 => (some t194)) = some r := H
   have A6 := qd.mk A60
   clear A60
   replace H := Option.bind_eq_some_iff.mp H
   obtain ⟨t194, A70, H⟩ := H
   replace H : (some t194) = some r := H
   have A7 := qd.mk A70
   clear A70
   obtain rfl := Option.some.inj H
   go_enter Tryz.func105, Tryz.ntmps105
   go_wp2_with (first | (go_at_call 75; (with_reducible refine (q7.calls k a0 false _ ?side1 A3.out).mono ?_); (case side1 => exact LibHeld.below HG.out cu); rintro e w8 ⟨rfl, hb⟩; have n0_ := qd.mk (qf cu hb); clear HB; have HB := n0_; clear n0_; (try clear hb); (try clear hb2); (try clear hk); (try clear hi)) | (go_at_call 132; (with_reducible refine (strings_TrimPrefix.calls a0 (⟨#[46]⟩ : ByteArray) t193 _ A6.out).mono ?_); rintro e w' ⟨rfl, ⟨nd, rfl⟩⟩) | (go_at_call 116; (with_reducible refine (q3.calls k t193 t194 _ ?side1 A7.out).mono ?_); (case side1 => exact LibHeld.below HG.out cu); rintro e w9 ⟨rfl, hb⟩; have n0_ := qd.mk (qf cu hb); clear HB; have HB := n0_; clear n0_; (try clear hb); (try clear hb2); (try clear hk); (try clear hi)))
   go_ret
   exact ⟨by first | rfl | (simp [qi, qj] <;> rfl) | (simp [*, qi, qj] <;> rfl), by repeat (first | (with_reducible first | exact HB.out | apply qb | apply qa | apply qc) | exact HB.out)⟩
 ·rw [if_neg c2] at H
  have c2b0 : decide ((a0.size : Int) ≤ 128) = false := decide_eq_false c2
  have c2b1 : decide (a0.size ≤ 128) = false := decide_eq_false yo
  clear c2
  obtain rfl := Option.some.inj H
  go_enter Tryz.func105, Tryz.ntmps105
  go_wp2
  go_ret
  exact ⟨by first | rfl | (simp [qi, qj] <;> rfl) | (simp [*, qi, qj] <;> rfl), by repeat (first | (with_reducible first | exact HB.out | apply qb | apply qa | apply qc) | exact HB.out)⟩
def stringslite_HasSuffix.f (a0 : ByteArray) (a1 : ByteArray) : Option (Bool) := if (a0.size : Int) ≥ (a1.size : Int) then (if 0 ≤ (wrap64 ((a0.size : Int) - (a1.size : Int))) then (if (wrap64 ((a0.size : Int) - (a1.size : Int))) ≤ (a0.size : Int) then (some ((a0.extract ((wrap64 ((a0.size : Int) - (a1.size : Int))) : Int).toNat a0.size).toList == a1.toList)) else (none)) else (none)) else (some false)
set_option maxHeartbeats 8000000 in
set_option maxRecDepth 100000 in
theorem stringslite_HasSuffix.calls (a0 : ByteArray) (a1 : ByteArray) (r : Bool) (w : World) (h : stringslite_HasSuffix.f a0 a1 = some r) :
  Calls Tryz.prog 169 #[.string a0, .string a1] w fun e w' => e = .returned (.bool r) ∧ qy w w' := by
 have H : (if (a0.size : Int) ≥ (a1.size : Int) then (if 0 ≤ (wrap64 ((a0.size : Int) - (a1.size : Int))) then (if (wrap64 ((a0.size : Int) - (a1.size : Int))) ≤ (a0.size : Int) then (some ((a0.extract ((wrap64 ((a0.size : Int) - (a1.size : Int))) : Int).toNat a0.size).toList == a1.toList)) else (none)) else (none)) else (some false)) = some r := h
 clear h
 by_cases c3 : (a0.size : Int) ≥ (a1.size : Int)
 ·rw [if_pos c3] at H
  have c3b0 : decide ((a1.size : Int) ≤ (a0.size : Int)) = true := decide_eq_true c3
  have c3b1 : decide (a1.size ≤ a0.size) = true := decide_eq_true (Int.ofNat_le.mp c3)
  clear c3
  obtain ⟨ji4, hji4⟩ : ∃ j_ : Int, (wrap64 ((a0.size : Int) - (a1.size : Int))) = j_ := ⟨_, rfl⟩
  replace H : (if 0 ≤ (ji4) then (if (ji4) ≤ (a0.size : Int) then (some ((a0.extract ((ji4) : Int).toNat a0.size).toList == a1.toList)) else (none)) else (none)) = some r := by first | (rw [hji4] at H; exact H) | (simp only [hji4] at H ⊢; exact H)
  have hji4w : (IntKind.i64.wrap ((a0.size : Int) - (a1.size : Int))) = ji4 := (zg _).trans hji4
  by_cases c5 : 0 ≤ (ji4)
  ·rw [if_pos c5] at H
   have c5b0 := eq_true c5
   have c5b1 : decide (0 ≤ (ji4)) = true := decide_eq_true c5
   clear c5
   by_cases c6 : (ji4) ≤ (a0.size : Int)
   ·rw [if_pos c6] at H
    have c6b0 := eq_true c6
    have c6b1 : decide ((ji4) ≤ (a0.size : Int)) = true := decide_eq_true c6
    clear c6
    obtain rfl := Option.some.inj H
    go_enter Tryz.func169, Tryz.ntmps169
    go_wp2
    go_ret
    exact ⟨by first | rfl | (simp; done) | (simp only [← hji4] <;> (first | rfl | simp)) | (simp [*]; done), by repeat (first | exact qy.refl _ | apply qy.step)⟩
   ·rw [if_neg c6] at H
    exact absurd H y7
  ·rw [if_neg c5] at H
   exact absurd H y7
 ·rw [if_neg c3] at H
  have c3b0 : decide ((a1.size : Int) ≤ (a0.size : Int)) = false := decide_eq_false c3
  have c3b1 : decide (a1.size ≤ a0.size) = false := decide_eq_false (fun h => c3 (Int.ofNat_le.mpr h))
  clear c3
  obtain rfl := Option.some.inj H
  go_enter Tryz.func169, Tryz.ntmps169
  go_wp2
  go_ret
  exact ⟨by first | rfl | (simp; done) | (simp [*]; done), by repeat (first | exact qy.refl _ | apply qy.step)⟩
def strings_HasSuffix.f (a0 : ByteArray) (a1 : ByteArray) : Option (Bool) := (stringslite_HasSuffix.f a0 a1).bind fun t195 => (some t195)
set_option maxHeartbeats 8000000 in
set_option maxRecDepth 100000 in
theorem strings_HasSuffix.calls (a0 : ByteArray) (a1 : ByteArray) (r : Bool) (w : World) (h : strings_HasSuffix.f a0 a1 = some r) :
  Calls Tryz.prog 147 #[.string a0, .string a1] w fun e w' => e = .returned (.bool r) ∧ qy w w' := by
 have H : ((stringslite_HasSuffix.f a0 a1).bind fun t195 => (some t195)) = some r := h
 clear h
 replace H := Option.bind_eq_some_iff.mp H
 obtain ⟨t195, A30, H⟩ := H
 replace H : (some t195) = some r := H
 have A3 := qd.mk A30
 clear A30
 obtain rfl := Option.some.inj H
 go_enter Tryz.func147, Tryz.ntmps147
 go_wp2_with (first | ((with_reducible refine qp (f := 169) rfl ?_); refine za (some 7) rfl rfl Tryz.func169 yg rfl #[.string a0, .string a1] rfl cz ?_; (with_reducible refine (stringslite_HasSuffix.calls a0 a1 t195 _ A3.out).mono ?_); rintro e w' ⟨rfl, ⟨nd, rfl⟩⟩; refine ⟨_, rfl, ?_⟩))
 go_ret
 exact ⟨by first | rfl | (simp; done) | (simp [*]; done), by repeat (first | exact qy.refl _ | apply qy.step)⟩
def z8.f (a0 : ByteArray) (a1 : ByteArray) : Option (Bool) := (xc.f a0).bind fun t196 => ((xc.f a1).bind fun t197 => ((strings_HasSuffix.f t196 t197).bind fun t198 => (some t198)))
set_option maxHeartbeats 8000000 in
set_option maxRecDepth 100000 in
theorem z8.calls (a0 : ByteArray) (a1 : ByteArray) (r : Bool) (w : World) (h : z8.f a0 a1 = some r) :
  Calls Tryz.prog 119 #[.string a0, .string a1] w fun e w' => e = .returned (.bool r) ∧ Below w.heap.size w w' := by
 have HB := qd.mk (Below.refl w.heap.size w)
 have H : ((xc.f a0).bind fun t196 => ((xc.f a1).bind fun t197 => ((strings_HasSuffix.f t196 t197).bind fun t198 => (some t198)))) = some r := h
 clear h
 replace H := Option.bind_eq_some_iff.mp H
 obtain ⟨t196, A30, H⟩ := H
 replace H : ((xc.f a1).bind fun t197 => ((strings_HasSuffix.f t196 t197).bind fun t198 => (some t198))) = some r := H
 have A3 := qd.mk A30
 clear A30
 replace H := Option.bind_eq_some_iff.mp H
 obtain ⟨t197, A40, H⟩ := H
 replace H : ((strings_HasSuffix.f t196 t197).bind fun t198 => (some t198)) = some r := H
 have A4 := qd.mk A40
 clear A40
 replace H := Option.bind_eq_some_iff.mp H
 obtain ⟨t198, A50, H⟩ := H
 replace H : (some t198) = some r := H
 have A5 := qd.mk A50
 clear A50
 obtain rfl := Option.some.inj H
 go_enter Tryz.func119, Tryz.ntmps119
 go_wp2_with (first | ((with_reducible refine qp (f := 145) rfl ?_); refine za (some 6) rfl rfl Tryz.func145 yg rfl #[.string a0] rfl cz ?_; (with_reducible refine (xc.calls a0 t196 _ A3.out).mono ?_); rintro e w6 ⟨rfl, hb⟩; refine ⟨_, rfl, ?_⟩; have n0_ := qd.mk (qf cu hb); clear HB; have HB := n0_; clear n0_; (try clear hb); (try clear hb2); (try clear hk); (try clear hi)) | ((with_reducible refine qp (f := 145) rfl ?_); refine za (some 8) rfl rfl Tryz.func145 yg rfl #[.string a1] rfl cz ?_; (with_reducible refine (xc.calls a1 t197 _ A4.out).mono ?_); rintro e w7 ⟨rfl, hb⟩; refine ⟨_, rfl, ?_⟩; have n0_ := qd.mk (qf cu hb); clear HB; have HB := n0_; clear n0_; (try clear hb); (try clear hb2); (try clear hk); (try clear hi)) | ((with_reducible refine qp (f := 147) rfl ?_); refine za (some 9) rfl rfl Tryz.func147 yg rfl #[.string t196, .string t197] rfl cz ?_; (with_reducible refine (strings_HasSuffix.calls t196 t197 t198 _ A5.out).mono ?_); rintro e w' ⟨rfl, ⟨nd, rfl⟩⟩; refine ⟨_, rfl, ?_⟩))
 go_ret
 exact ⟨by first | rfl | (simp [qi, qj] <;> rfl) | (simp [*, qi, qj] <;> rfl), by repeat (first | (with_reducible first | exact HB.out | apply qb | apply qa | apply qc) | exact HB.out)⟩
end Go.Proofs.YtlamfnaoemingaaGreatDoor.C
end
