/- Words, walks and plain laws that the claim rests on, gathered. -/
import Derived.Below
import Derived.Deep.Draws
import Derived.Deep.AppendLies
import Derived.Maps.AppendAt
import Derived.OwnWalk
import Derived.Laws.BytesArg
import Derived.Laws.MakeOwn
import Derived.Laws.OwnMore
import Derived.Deep.OwnRows
import Derived.Tactics
import Derived.Lib.ConvBytes
import Derived.Laws.Slices
import Derived.WalkKit
import Derived.KernelRfl
import Derived.RowKit3
import Derived.Deep.LoopGhost
import Derived.Deep.QuietTactic
import Derived.BigQuiet
import Derived.WideLaws
import Derived.Deep.DeepCutAuto
import Derived.Deep.CutBlock
import Derived.Deep.RegionHeld3
import Derived.Laws.Rows
import Derived.Lib.AppendStr
import Derived.ArgAppend
import Derived.Laws.IdiomCopy
import Derived.RowKit
import Derived.Shelf.Strings.Builder1
import Derived.Shelf.Strings.Builder2
import Derived.Shelf.Strings.OnBuilder
import Derived.Shelf.Small.Bits
import Derived.Shelf.Small.Strs
import Derived.Shelf.Strconv.Itoa0
import Derived.Shelf.Strings.Search1
import Derived.Shelf.Strings.Search2
import Derived.Shelf.Strings.Search3
import Derived.Shelf.Strings.Cut
import Derived.Shelf.Strings.Count
import Derived.Shelf.LaysM
import Derived.Shelf.Strings.Shaped
import Derived.Shelf.Sort.Plain
import Derived.Shelf.Strings.Prefix
import Derived.Shelf.Strings.Split
import Derived.Shelf.Strings.SplitShaped
import Derived.Shelf.Unicode.DecodeSlow
import Derived.Shelf.Slices.In.SortNone
import Derived.Shelf.Slices.In.SortNone2
import Derived.Test.YthdoohfdminfgaaGreatDoorProg
import Derived.WalkSpells
import Derived.OrdersHeld
import Derived.Laws.BitsLemmas
import Derived.WalkLawsBesides
import Derived.Laws.StructEq
import Derived.Test.YthdoohfdminfgaaGreatDoorNC0
import Derived.Test.YthdoohfdminfgaaGreatDoorNC1
import Derived.Test.YthdoohfdminfgaaGreatDoorNC2
import Derived.Test.YthdoohfdminfgaaGreatDoorNC11
import Derived.Test.YthdoohfdminfgaaGreatDoorNC12
import Derived.Test.YthdoohfdminfgaaGreatDoorNCc
namespace Go.Proofs.YthdoohfdminfgaaGreatDoorW.PrintLast
end Go.Proofs.YthdoohfdminfgaaGreatDoorW.PrintLast
namespace Go.Proofs.YthdoohfdminfgaaGreatDoorW.PrintMore
end Go.Proofs.YthdoohfdminfgaaGreatDoorW.PrintMore
namespace Go.Proofs.YthdoohfdminfgaaGreatDoorW.PrintWords
end Go.Proofs.YthdoohfdminfgaaGreatDoorW.PrintWords
section
namespace Go.Proofs.YthdoohfdminfgaaGreatDoor.C
open Go.RowKit Go.Proofs.YthdoohfdminfgaaGreatDoorW.PrintWords Go.Proofs.YthdoohfdminfgaaGreatDoorW.PrintLast Go.Proofs.YthdoohfdminfgaaGreatDoorW.PrintMore
attribute [local go_sem] kc xy kr ks xh xg xz xx
set_option linter.unusedVariables false
set_option linter.unusedSimpArgs false
def xc.f (k : Nat) (a0_0 : ByteArray) (a0_1 : Int) (a0_2 : ByteArray) : Option (ByteArray × Int) := (kj.f k a0_0).bind fun bt317 => (if bt317.2 = 0 then ((zw.f k 6 (([bt317.1] : List ByteArray))).bind fun bt322 => (if bt322.2 = 0 then ((zw.f k a0_1 (([a0_2] : List ByteArray))).bind fun bt327 => (if bt327.2 = 0 then ((zw.f k 48 (([bt322.1, bt327.1] : List ByteArray))).bind fun bt332 => (some (bt332.1, bt332.2))) else (some ((⟨#[]⟩ : ByteArray), bt327.2)))) else (some ((⟨#[]⟩ : ByteArray), bt322.2)))) else (some ((⟨#[]⟩ : ByteArray), bt317.2)))
theorem xc.mono : ∀ a0 a1 a2 k, LeO (xc.f k a0 a1 a2) (xc.f (k + 1) a0 a1 a2) := by
 intro a0 a1 a2 k
 unfold xc.f
 repeat' first
   | (with_reducible exact kj.mono _ _)
   | (with_reducible exact zw.mono _ _ _)
   | (with_reducible exact LeO.refl _)
   | (with_reducible exact LeO.none _)
   | (with_reducible refine LeO.ite ?_ ?_)
   | (with_reducible refine LeO.bind ?_ (fun _ => ?_))
set_option maxHeartbeats 8000000 in
set_option maxRecDepth 100000 in
theorem xc.calls (k : Nat) (a0_0 : ByteArray) (a0_1 : Int) (a0_2 : ByteArray) (r1 : ByteArray) (r2 : Int) (w : World) (hG : LibHeld w) (h : xc.f k a0_0 a0_1 a0_2 = some (r1, r2)) :
  Calls Tryz.prog 44 #[.agg #[.string a0_0, .int .i64 a0_1, .string a0_2]] w fun e w' => e = .returned (.tuple #[.string r1, .int .i64 r2]) ∧ Below w.heap.size w w' := by
 have hu40 := Tryz.underlying40
 have HG := qb.mk hG
 clear hG
 have HB := qb.mk (Below.refl w.heap.size w)
 have H : ((kj.f k a0_0).bind fun bt317 => (if bt317.2 = 0 then ((zw.f k 6 (([bt317.1] : List ByteArray))).bind fun bt322 => (if bt322.2 = 0 then ((zw.f k a0_1 (([a0_2] : List ByteArray))).bind fun bt327 => (if bt327.2 = 0 then ((zw.f k 48 (([bt322.1, bt327.1] : List ByteArray))).bind fun bt332 => (some (bt332.1, bt332.2))) else (some ((⟨#[]⟩ : ByteArray), bt327.2)))) else (some ((⟨#[]⟩ : ByteArray), bt322.2)))) else (some ((⟨#[]⟩ : ByteArray), bt317.2)))) = some (r1, r2) := h
 clear h
 replace H := Option.bind_eq_some_iff.mp H
 obtain ⟨⟨t317, t318⟩, A20, H⟩ := H
 replace H : (if t318 = 0 then ((zw.f k 6 (([t317] : List ByteArray))).bind fun bt322 => (if bt322.2 = 0 then ((zw.f k a0_1 (([a0_2] : List ByteArray))).bind fun bt327 => (if bt327.2 = 0 then ((zw.f k 48 (([bt322.1, bt327.1] : List ByteArray))).bind fun bt332 => (some (bt332.1, bt332.2))) else (some ((⟨#[]⟩ : ByteArray), bt327.2)))) else (some ((⟨#[]⟩ : ByteArray), bt322.2)))) else (some ((⟨#[]⟩ : ByteArray), t318))) = some (r1, r2) := H
 have A2 := qb.mk A20
 clear A20
 by_cases c3 : t318 = 0
 ·rw [if_pos c3] at H
  have c3b0 : (t318 == 0) = true := beq_iff_eq.mpr c3
  have c3b1 : (t318 != 0) = false := bne_eq_false_iff_eq.mpr c3
  clear c3
  obtain ⟨y319, hy319⟩ : ∃ y_ : List ByteArray, y_ = (([t317] : List ByteArray)) := ⟨_, rfl⟩
  replace H : ((zw.f k 6 y319).bind fun bt322 => (if bt322.2 = 0 then ((zw.f k a0_1 (([a0_2] : List ByteArray))).bind fun bt327 => (if bt327.2 = 0 then ((zw.f k 48 (([bt322.1, bt327.1] : List ByteArray))).bind fun bt332 => (some (bt332.1, bt332.2))) else (some ((⟨#[]⟩ : ByteArray), bt327.2)))) else (some ((⟨#[]⟩ : ByteArray), bt322.2)))) = some (r1, r2) := by first | (rw [hy319]; with_reducible exact H) | (have H2_ := (Option.bind_some _ _).symm.trans H; rw [hy319]; with_reducible exact H2_) | (have H2_ := (Option.bind_some _ _).symm.trans H; with_reducible exact H2_) | with_reducible exact H | (rw [hy319]; exact H) | exact H
  have Ny319 := qb.mk hy319
  clear hy319
  replace H := Option.bind_eq_some_iff.mp H
  obtain ⟨⟨t322, t323⟩, A40, H⟩ := H
  replace H : (if t323 = 0 then ((zw.f k a0_1 (([a0_2] : List ByteArray))).bind fun bt327 => (if bt327.2 = 0 then ((zw.f k 48 (([t322, bt327.1] : List ByteArray))).bind fun bt332 => (some (bt332.1, bt332.2))) else (some ((⟨#[]⟩ : ByteArray), bt327.2)))) else (some ((⟨#[]⟩ : ByteArray), t323))) = some (r1, r2) := H
  have A4 := qb.mk A40
  clear A40
  by_cases c5 : t323 = 0
  ·rw [if_pos c5] at H
   have c5b0 : (t323 == 0) = true := beq_iff_eq.mpr c5
   have c5b1 : (t323 != 0) = false := bne_eq_false_iff_eq.mpr c5
   clear c5
   obtain ⟨y324, hy324⟩ : ∃ y_ : List ByteArray, y_ = (([a0_2] : List ByteArray)) := ⟨_, rfl⟩
   replace H : ((zw.f k a0_1 y324).bind fun bt327 => (if bt327.2 = 0 then ((zw.f k 48 (([t322, bt327.1] : List ByteArray))).bind fun bt332 => (some (bt332.1, bt332.2))) else (some ((⟨#[]⟩ : ByteArray), bt327.2)))) = some (r1, r2) := by first | (rw [hy324]; with_reducible exact H) | (have H2_ := (Option.bind_some _ _).symm.trans H; rw [hy324]; with_reducible exact H2_) | (have H2_ := (Option.bind_some _ _).symm.trans H; with_reducible exact H2_) | with_reducible exact H | (rw [hy324]; exact H) | exact H
   have Ny324 := qb.mk hy324
   clear hy324
   replace H := Option.bind_eq_some_iff.mp H
   obtain ⟨⟨t327, t328⟩, A60, H⟩ := H
   replace H : (if t328 = 0 then ((zw.f k 48 (([t322, t327] : List ByteArray))).bind fun bt332 => (some (bt332.1, bt332.2))) else (some ((⟨#[]⟩ : ByteArray), t328))) = some (r1, r2) := H
   have A6 := qb.mk A60
   clear A60
   by_cases c7 : t328 = 0
   ·rw [if_pos c7] at H
    have c7b0 : (t328 == 0) = true := beq_iff_eq.mpr c7
    have c7b1 : (t328 != 0) = false := bne_eq_false_iff_eq.mpr c7
    clear c7
    obtain ⟨y329, hy329⟩ : ∃ y_ : List ByteArray, y_ = (([t322, t327] : List ByteArray)) := ⟨_, rfl⟩
    replace H : ((zw.f k 48 y329).bind fun bt332 => (some (bt332.1, bt332.2))) = some (r1, r2) := by first | (rw [hy329]; with_reducible exact H) | (have H2_ := (Option.bind_some _ _).symm.trans H; rw [hy329]; with_reducible exact H2_) | (have H2_ := (Option.bind_some _ _).symm.trans H; with_reducible exact H2_) | with_reducible exact H | (rw [hy329]; exact H) | exact H
    have Ny329 := qb.mk hy329
    clear hy329
    replace H := Option.bind_eq_some_iff.mp H
    obtain ⟨⟨t332, t333⟩, A80, H⟩ := H
    replace H : (some (t332, t333)) = some (r1, r2) := H
    have A8 := qb.mk A80
    clear A80
    simp only [Option.some.injEq, Prod.mk.injEq] at H
    obtain ⟨rfl, rfl⟩ := H
    go_enter Tryz.func44, Tryz.ntmps44
    go_wp2_with (first | ((with_reducible refine zm (N := 1) rfl ?_); refine zx ?hg (N := 1) ?hd (cs := #[.string a0_0, .int .i64 a0_1, .string a0_2]) (t := 40) ?hr ?_; (case hd => rfl); (case hg => rfl); (case hr => first | (go_simp; done) | (go_simp; rfl)); intro gb316 hg w9 hbox hb; have n0_ := qb.mk (qm cu hb); have n1_ := qb.mk (hbox); have n2_ := qb.mk ((by rw [hg]; exact (qp cu) : w.heap.size ≤ gb316)); have n3_ := qb.mk ((by rw [hg]; exact (qp cu) : w.heap.size ≤ gb316)); clear HB; have HB := n0_; have BK316 := n1_; have GW316 := n2_; have GE316 := n3_; clear n0_ n1_ n2_ n3_; clear hb hbox hg; have hcz10_0 : w9.cell? ⟨gb316, 0, none⟩ = some (.string a0_0) := (qo BK316.out 0).trans rfl; have hcz10_1 : w9.cell? ⟨gb316, 1, none⟩ = some (.int .i64 a0_1) := (qo BK316.out 1).trans rfl; have hcz10_2 : w9.cell? ⟨gb316, 2, none⟩ = some (.string a0_2) := (qo BK316.out 2).trans rfl; have hfz10_0 := qr BK316.out 0; have hfz10_1 := qr BK316.out 1; have hfz10_2 := qr BK316.out 2) | ((with_reducible refine zl (f := 73) rfl ?_); refine xk (some 11) rfl rfl Tryz.func73 yh rfl #[.string a0_0] rfl cz ?_; (with_reducible refine (kj.calls k a0_0 t317 t318 _ ?side1 A2.out).mono ?_); (case side1 => exact LibHeld.below HG.out ym); rintro e w11 ⟨rfl, hb⟩; refine ⟨_, rfl, ?_⟩; have n0_ := qb.mk (q8 (g := gb316) (o := .cells #[.string a0_0, .int .i64 a0_1, .string a0_2] 40 (0, 0)) yx hb); have n1_ := qb.mk (qm ym hb); clear BK316; clear HB; have BK316 := n0_; have HB := n1_; clear n0_ n1_; (try clear hb); (try clear hb2); (try clear hk); (try clear hi)) | ((with_reducible refine zm (N := 19) rfl ?_); refine Kd.jz Kd.string _ 9 ?hg (N := 19) ?hd (xs := ([t317] : List ByteArray)) (inner := [.string t317]) (ok := fun _ => True) (okp := fun _ => True) ?hr ?hp (fun _ hk => hk) trivial (Below.refl _ _) (Nat.le_refl _) uf ?_; (case hd => rfl); (case hg => rfl); (case hr => first | (go_simp; done) | (go_simp; rfl)); (case hp => exact (Reps.one (show Kd.M Kd.string _ _ _ t317 [.string t317] from rfl) (Reps.none _ _))); intro v320 w12 ho13 hb hg_ hnew_; clear hg_ hnew_; (first | rw [← Ny319.out] at ho13 | (simp only [Int.reduceToNat] at ho13; rw [← Ny319.out] at ho13)); have n0_ := qb.mk (Kd.kn ho13 (qp ym)); have n1_ := qb.mk (q8 (g := gb316) (o := .cells #[.string a0_0, .int .i64 a0_1, .string a0_2] 40 (0, 0)) yx hb); have n2_ := qb.mk (qm ym hb); clear BK316; clear HB; have HO321 := n0_; have BK316 := n1_; have HB := n2_; clear n0_ n1_ n2_; clear hb ho13; obtain ⟨Ao14, co14, eo14⟩ := Kd.xo HO321.out; subst eo14) | ((with_reducible refine zl (f := 45) rfl ?_); refine xk (some 20) rfl rfl Tryz.func45 yh rfl #[.int .i64 6, .slice Ao14 y319.length co14] rfl cz ?_; (with_reducible refine (zw.calls k 6 _ _ y319 t322 t323 _ ?side1 ?side2 A4.out).mono ?_); (case side1 => repeat (first | exact (Kd.zq HO321.out).2.2 | (with_reducible refine Kd.xr ?_ _) | (with_reducible refine Kd.xt ?_ _) | (with_reducible refine Kd.kp ?_))); (case side2 => exact (Kd.zq HO321.out).2.1); rintro e w15 ⟨rfl, hb⟩; refine ⟨_, rfl, ?_⟩; have n0_ := qb.mk (Kd.z8 ut hb); have n1_ := qb.mk (q8 (g := gb316) (o := .cells #[.string a0_0, .int .i64 a0_1, .string a0_2] 40 (0, 0)) yx hb); have n2_ := qb.mk (qm ym hb); clear HO321; clear BK316; clear HB; have HO321 := n0_; have BK316 := n1_; have HB := n2_; clear n0_ n1_ n2_; (try clear hb); (try clear hb2); (try clear hk); (try clear hi); have hcz16_0 : w15.cell? ⟨gb316, 0, none⟩ = some (.string a0_0) := (qo BK316.out 0).trans rfl; have hcz16_1 : w15.cell? ⟨gb316, 1, none⟩ = some (.int .i64 a0_1) := (qo BK316.out 1).trans rfl; have hcz16_2 : w15.cell? ⟨gb316, 2, none⟩ = some (.string a0_2) := (qo BK316.out 2).trans rfl; have hfz16_0 := qr BK316.out 0; have hfz16_1 := qr BK316.out 1; have hfz16_2 := qr BK316.out 2) | ((with_reducible refine zm (N := 31) rfl ?_); refine Kd.jz Kd.string _ 9 ?hg (N := 31) ?hd (xs := ([a0_2] : List ByteArray)) (inner := [.string a0_2]) (ok := fun _ => True) (okp := fun _ => True) ?hr ?hp (fun _ hk => hk) trivial (Below.refl _ _) (Nat.le_refl _) uf ?_; (case hd => rfl); (case hg => rfl); (case hr => first | (go_simp; done) | (go_simp; rfl)); (case hp => exact (Reps.one (show Kd.M Kd.string _ _ _ a0_2 [.string a0_2] from rfl) (Reps.none _ _))); intro v325 w17 ho18 hb hg_ hnew_; clear hg_ hnew_; (first | rw [← Ny324.out] at ho18 | (simp only [Int.reduceToNat] at ho18; rw [← Ny324.out] at ho18)); have n0_ := qb.mk (Kd.k6 ut (Kd.je ho18) hb); have n1_ := qb.mk (Kd.kn (Kd.jm ho18 (Kd.R_lt ut)) (qp ym)); have n2_ := qb.mk (q8 (g := gb316) (o := .cells #[.string a0_0, .int .i64 a0_1, .string a0_2] 40 (0, 0)) yx hb); have n3_ := qb.mk (qm ym hb); clear HO321; clear BK316; clear HB; have HO321 := n0_; have HO326 := n1_; have BK316 := n2_; have HB := n3_; clear n0_ n1_ n2_ n3_; clear hb ho18; obtain ⟨Ao19, co19, eo19⟩ := Kd.xo HO326.out; subst eo19) | ((with_reducible refine zl (f := 45) rfl ?_); refine xk (some 32) rfl rfl Tryz.func45 yh rfl #[.int .i64 a0_1, .slice Ao19 y324.length co19] rfl cz ?_; (with_reducible refine (zw.calls k a0_1 _ _ y324 t327 t328 _ ?side1 ?side2 A6.out).mono ?_); (case side1 => repeat (first | exact (Kd.zq HO326.out).2.2 | (with_reducible refine Kd.xr ?_ _) | (with_reducible refine Kd.xt ?_ _) | (with_reducible refine Kd.kp ?_))); (case side2 => exact (Kd.zq HO326.out).2.1); rintro e w20 ⟨rfl, hb⟩; refine ⟨_, rfl, ?_⟩; have n0_ := qb.mk (Kd.z8 ut hb); have n1_ := qb.mk (Kd.z8 cav hb); have n2_ := qb.mk (q8 (g := gb316) (o := .cells #[.string a0_0, .int .i64 a0_1, .string a0_2] 40 (0, 0)) yx hb); have n3_ := qb.mk (qm ym hb); clear HO321; clear HO326; clear BK316; clear HB; have HO321 := n0_; have HO326 := n1_; have BK316 := n2_; have HB := n3_; clear n0_ n1_ n2_ n3_; (try clear hb); (try clear hb2); (try clear hk); (try clear hi)) | ((with_reducible refine zm (N := 40) rfl ?_); refine Kd.jz Kd.string _ 9 ?hg (N := 40) ?hd (xs := ([t322, t327] : List ByteArray)) (inner := [.string t322, .string t327]) (ok := fun _ => True) (okp := fun _ => True) ?hr ?hp (fun _ hk => hk) trivial (Below.refl _ _) (Nat.le_refl _) uf ?_; (case hd => rfl); (case hg => rfl); (case hr => first | (go_simp; done) | (go_simp; rfl)); (case hp => exact (Reps.one (show Kd.M Kd.string _ _ _ t322 [.string t322] from rfl) (Reps.one (show Kd.M Kd.string _ _ _ t327 [.string t327] from rfl) (Reps.none _ _)))); intro v330 w21 ho22 hb hg_ hnew_; clear hg_ hnew_; (first | rw [← Ny329.out] at ho22 | (simp only [Int.reduceToNat] at ho22; rw [← Ny329.out] at ho22)); have n0_ := qb.mk (Kd.k6 ut (Kd.je ho22) hb); have n1_ := qb.mk (Kd.k6 cav (Kd.je ho22) hb); have n2_ := qb.mk (Kd.kn (Kd.jm (Kd.jm ho22 (Kd.R_lt ut)) (Kd.R_lt cav)) (qp ym)); have n3_ := qb.mk (q8 (g := gb316) (o := .cells #[.string a0_0, .int .i64 a0_1, .string a0_2] 40 (0, 0)) yx hb); have n4_ := qb.mk (qm ym hb); clear HO321; clear HO326; clear BK316; clear HB; have HO321 := n0_; have HO326 := n1_; have HO331 := n2_; have BK316 := n3_; have HB := n4_; clear n0_ n1_ n2_ n3_ n4_; clear hb ho22; obtain ⟨Ao23, co23, eo23⟩ := Kd.xo HO331.out; subst eo23) | ((with_reducible refine zl (f := 45) rfl ?_); refine xk (some 41) rfl rfl Tryz.func45 yh rfl #[.int .i64 48, .slice Ao23 y329.length co23] rfl cz ?_; (with_reducible refine (zw.calls k 48 _ _ y329 t332 t333 _ ?side1 ?side2 A8.out).mono ?_); (case side1 => repeat (first | exact (Kd.zq HO331.out).2.2 | (with_reducible refine Kd.xr ?_ _) | (with_reducible refine Kd.xt ?_ _) | (with_reducible refine Kd.kp ?_))); (case side2 => exact (Kd.zq HO331.out).2.1); rintro e w24 ⟨rfl, hb⟩; refine ⟨_, rfl, ?_⟩; have n0_ := qb.mk (Kd.z8 ut hb); have n1_ := qb.mk (Kd.z8 cav hb); have n2_ := qb.mk (Kd.z8 (by (with_reducible repeat (first | apply Kd.qw | apply Kd.qv | apply Kd.qz)); exact HO331.out) hb); have n3_ := qb.mk (q8 (g := gb316) (o := .cells #[.string a0_0, .int .i64 a0_1, .string a0_2] 40 (0, 0)) yx hb); have n4_ := qb.mk (qm ym hb); clear HO321; clear HO326; clear HO331; clear BK316; clear HB; have HO321 := n0_; have HO326 := n1_; have HO331 := n2_; have BK316 := n3_; have HB := n4_; clear n0_ n1_ n2_ n3_ n4_; (try clear hb); (try clear hb2); (try clear hk); (try clear hi)))
    go_ret2
    exact ⟨by first | rfl | (simp [qt, qu] <;> rfl) | (simp [*, qt, qu] <;> rfl), by repeat (first | (with_reducible first | exact HB.out | apply qc | apply qa | apply qd | refine qe ?_ GE316.out) | exact HB.out)⟩
   ·rw [if_neg c7] at H
    have c7b0 : (t328 == 0) = false := beq_eq_false_iff_ne.mpr c7
    have c7b1 : (t328 != 0) = true := bne_iff_ne.mpr c7
    simp only [Option.some.injEq, Prod.mk.injEq] at H
    obtain ⟨rfl, rfl⟩ := H
    go_enter Tryz.func44, Tryz.ntmps44
    go_wp2_with (first | ((with_reducible refine zm (N := 1) rfl ?_); refine zx ?hg (N := 1) ?hd (cs := #[.string a0_0, .int .i64 a0_1, .string a0_2]) (t := 40) ?hr ?_; (case hd => rfl); (case hg => rfl); (case hr => first | (go_simp; done) | (go_simp; rfl)); intro gb316 hg w25 hbox hb; have n0_ := qb.mk (qm cu hb); have n1_ := qb.mk (hbox); have n2_ := qb.mk ((by rw [hg]; exact (qp cu) : w.heap.size ≤ gb316)); have n3_ := qb.mk ((by rw [hg]; exact (qp cu) : w.heap.size ≤ gb316)); clear HB; have HB := n0_; have BK316 := n1_; have GW316 := n2_; have GE316 := n3_; clear n0_ n1_ n2_ n3_; clear hb hbox hg; have hcz26_0 : w25.cell? ⟨gb316, 0, none⟩ = some (.string a0_0) := (qo BK316.out 0).trans rfl; have hcz26_1 : w25.cell? ⟨gb316, 1, none⟩ = some (.int .i64 a0_1) := (qo BK316.out 1).trans rfl; have hcz26_2 : w25.cell? ⟨gb316, 2, none⟩ = some (.string a0_2) := (qo BK316.out 2).trans rfl; have hfz26_0 := qr BK316.out 0; have hfz26_1 := qr BK316.out 1; have hfz26_2 := qr BK316.out 2) | ((with_reducible refine zl (f := 73) rfl ?_); refine xk (some 11) rfl rfl Tryz.func73 yh rfl #[.string a0_0] rfl cz ?_; (with_reducible refine (kj.calls k a0_0 t317 t318 _ ?side1 A2.out).mono ?_); (case side1 => exact LibHeld.below HG.out ym); rintro e w27 ⟨rfl, hb⟩; refine ⟨_, rfl, ?_⟩; have n0_ := qb.mk (q8 (g := gb316) (o := .cells #[.string a0_0, .int .i64 a0_1, .string a0_2] 40 (0, 0)) yx hb); have n1_ := qb.mk (qm ym hb); clear BK316; clear HB; have BK316 := n0_; have HB := n1_; clear n0_ n1_; (try clear hb); (try clear hb2); (try clear hk); (try clear hi)) | ((with_reducible refine zm (N := 19) rfl ?_); refine Kd.jz Kd.string _ 9 ?hg (N := 19) ?hd (xs := ([t317] : List ByteArray)) (inner := [.string t317]) (ok := fun _ => True) (okp := fun _ => True) ?hr ?hp (fun _ hk => hk) trivial (Below.refl _ _) (Nat.le_refl _) uf ?_; (case hd => rfl); (case hg => rfl); (case hr => first | (go_simp; done) | (go_simp; rfl)); (case hp => exact (Reps.one (show Kd.M Kd.string _ _ _ t317 [.string t317] from rfl) (Reps.none _ _))); intro v320 w28 ho29 hb hg_ hnew_; clear hg_ hnew_; (first | rw [← Ny319.out] at ho29 | (simp only [Int.reduceToNat] at ho29; rw [← Ny319.out] at ho29)); have n0_ := qb.mk (Kd.kn ho29 (qp ym)); have n1_ := qb.mk (q8 (g := gb316) (o := .cells #[.string a0_0, .int .i64 a0_1, .string a0_2] 40 (0, 0)) yx hb); have n2_ := qb.mk (qm ym hb); clear BK316; clear HB; have HO321 := n0_; have BK316 := n1_; have HB := n2_; clear n0_ n1_ n2_; clear hb ho29; obtain ⟨Ao30, co30, eo30⟩ := Kd.xo HO321.out; subst eo30) | ((with_reducible refine zl (f := 45) rfl ?_); refine xk (some 20) rfl rfl Tryz.func45 yh rfl #[.int .i64 6, .slice Ao30 y319.length co30] rfl cz ?_; (with_reducible refine (zw.calls k 6 _ _ y319 t322 t323 _ ?side1 ?side2 A4.out).mono ?_); (case side1 => repeat (first | exact (Kd.zq HO321.out).2.2 | (with_reducible refine Kd.xr ?_ _) | (with_reducible refine Kd.xt ?_ _) | (with_reducible refine Kd.kp ?_))); (case side2 => exact (Kd.zq HO321.out).2.1); rintro e w31 ⟨rfl, hb⟩; refine ⟨_, rfl, ?_⟩; have n0_ := qb.mk (Kd.z8 ut hb); have n1_ := qb.mk (q8 (g := gb316) (o := .cells #[.string a0_0, .int .i64 a0_1, .string a0_2] 40 (0, 0)) yx hb); have n2_ := qb.mk (qm ym hb); clear HO321; clear BK316; clear HB; have HO321 := n0_; have BK316 := n1_; have HB := n2_; clear n0_ n1_ n2_; (try clear hb); (try clear hb2); (try clear hk); (try clear hi); have hcz32_0 : w31.cell? ⟨gb316, 0, none⟩ = some (.string a0_0) := (qo BK316.out 0).trans rfl; have hcz32_1 : w31.cell? ⟨gb316, 1, none⟩ = some (.int .i64 a0_1) := (qo BK316.out 1).trans rfl; have hcz32_2 : w31.cell? ⟨gb316, 2, none⟩ = some (.string a0_2) := (qo BK316.out 2).trans rfl; have hfz32_0 := qr BK316.out 0; have hfz32_1 := qr BK316.out 1; have hfz32_2 := qr BK316.out 2) | ((with_reducible refine zm (N := 31) rfl ?_); refine Kd.jz Kd.string _ 9 ?hg (N := 31) ?hd (xs := ([a0_2] : List ByteArray)) (inner := [.string a0_2]) (ok := fun _ => True) (okp := fun _ => True) ?hr ?hp (fun _ hk => hk) trivial (Below.refl _ _) (Nat.le_refl _) uf ?_; (case hd => rfl); (case hg => rfl); (case hr => first | (go_simp; done) | (go_simp; rfl)); (case hp => exact (Reps.one (show Kd.M Kd.string _ _ _ a0_2 [.string a0_2] from rfl) (Reps.none _ _))); intro v325 w33 ho34 hb hg_ hnew_; clear hg_ hnew_; (first | rw [← Ny324.out] at ho34 | (simp only [Int.reduceToNat] at ho34; rw [← Ny324.out] at ho34)); have n0_ := qb.mk (Kd.k6 ut (Kd.je ho34) hb); have n1_ := qb.mk (Kd.kn (Kd.jm ho34 (Kd.R_lt ut)) (qp ym)); have n2_ := qb.mk (q8 (g := gb316) (o := .cells #[.string a0_0, .int .i64 a0_1, .string a0_2] 40 (0, 0)) yx hb); have n3_ := qb.mk (qm ym hb); clear HO321; clear BK316; clear HB; have HO321 := n0_; have HO326 := n1_; have BK316 := n2_; have HB := n3_; clear n0_ n1_ n2_ n3_; clear hb ho34; obtain ⟨Ao35, co35, eo35⟩ := Kd.xo HO326.out; subst eo35) | ((with_reducible refine zl (f := 45) rfl ?_); refine xk (some 32) rfl rfl Tryz.func45 yh rfl #[.int .i64 a0_1, .slice Ao35 y324.length co35] rfl cz ?_; (with_reducible refine (zw.calls k a0_1 _ _ y324 t327 t328 _ ?side1 ?side2 A6.out).mono ?_); (case side1 => repeat (first | exact (Kd.zq HO326.out).2.2 | (with_reducible refine Kd.xr ?_ _) | (with_reducible refine Kd.xt ?_ _) | (with_reducible refine Kd.kp ?_))); (case side2 => exact (Kd.zq HO326.out).2.1); rintro e w36 ⟨rfl, hb⟩; refine ⟨_, rfl, ?_⟩; have n0_ := qb.mk (Kd.z8 ut hb); have n1_ := qb.mk (Kd.z8 cav hb); have n2_ := qb.mk (q8 (g := gb316) (o := .cells #[.string a0_0, .int .i64 a0_1, .string a0_2] 40 (0, 0)) yx hb); have n3_ := qb.mk (qm ym hb); clear HO321; clear HO326; clear BK316; clear HB; have HO321 := n0_; have HO326 := n1_; have BK316 := n2_; have HB := n3_; clear n0_ n1_ n2_ n3_; (try clear hb); (try clear hb2); (try clear hk); (try clear hi)))
    go_ret2
    exact ⟨by first | rfl | (simp [qt, qu] <;> rfl) | (simp [*, qt, qu] <;> rfl), by repeat (first | (with_reducible first | exact HB.out | apply qc | apply qa | apply qd | refine qe ?_ GE316.out) | exact HB.out)⟩
  ·rw [if_neg c5] at H
   have c5b0 : (t323 == 0) = false := beq_eq_false_iff_ne.mpr c5
   have c5b1 : (t323 != 0) = true := bne_iff_ne.mpr c5
   simp only [Option.some.injEq, Prod.mk.injEq] at H
   obtain ⟨rfl, rfl⟩ := H
   go_enter Tryz.func44, Tryz.ntmps44
   go_wp2_with (first | ((with_reducible refine zm (N := 1) rfl ?_); refine zx ?hg (N := 1) ?hd (cs := #[.string a0_0, .int .i64 a0_1, .string a0_2]) (t := 40) ?hr ?_; (case hd => rfl); (case hg => rfl); (case hr => first | (go_simp; done) | (go_simp; rfl)); intro gb316 hg w37 hbox hb; have n0_ := qb.mk (qm cu hb); have n1_ := qb.mk (hbox); have n2_ := qb.mk ((by rw [hg]; exact (qp cu) : w.heap.size ≤ gb316)); have n3_ := qb.mk ((by rw [hg]; exact (qp cu) : w.heap.size ≤ gb316)); clear HB; have HB := n0_; have BK316 := n1_; have GW316 := n2_; have GE316 := n3_; clear n0_ n1_ n2_ n3_; clear hb hbox hg; have hcz38_0 : w37.cell? ⟨gb316, 0, none⟩ = some (.string a0_0) := (qo BK316.out 0).trans rfl; have hcz38_1 : w37.cell? ⟨gb316, 1, none⟩ = some (.int .i64 a0_1) := (qo BK316.out 1).trans rfl; have hcz38_2 : w37.cell? ⟨gb316, 2, none⟩ = some (.string a0_2) := (qo BK316.out 2).trans rfl; have hfz38_0 := qr BK316.out 0; have hfz38_1 := qr BK316.out 1; have hfz38_2 := qr BK316.out 2) | ((with_reducible refine zl (f := 73) rfl ?_); refine xk (some 11) rfl rfl Tryz.func73 yh rfl #[.string a0_0] rfl cz ?_; (with_reducible refine (kj.calls k a0_0 t317 t318 _ ?side1 A2.out).mono ?_); (case side1 => exact LibHeld.below HG.out ym); rintro e w39 ⟨rfl, hb⟩; refine ⟨_, rfl, ?_⟩; have n0_ := qb.mk (q8 (g := gb316) (o := .cells #[.string a0_0, .int .i64 a0_1, .string a0_2] 40 (0, 0)) yx hb); have n1_ := qb.mk (qm ym hb); clear BK316; clear HB; have BK316 := n0_; have HB := n1_; clear n0_ n1_; (try clear hb); (try clear hb2); (try clear hk); (try clear hi)) | ((with_reducible refine zm (N := 19) rfl ?_); refine Kd.jz Kd.string _ 9 ?hg (N := 19) ?hd (xs := ([t317] : List ByteArray)) (inner := [.string t317]) (ok := fun _ => True) (okp := fun _ => True) ?hr ?hp (fun _ hk => hk) trivial (Below.refl _ _) (Nat.le_refl _) uf ?_; (case hd => rfl); (case hg => rfl); (case hr => first | (go_simp; done) | (go_simp; rfl)); (case hp => exact (Reps.one (show Kd.M Kd.string _ _ _ t317 [.string t317] from rfl) (Reps.none _ _))); intro v320 w40 ho41 hb hg_ hnew_; clear hg_ hnew_; (first | rw [← Ny319.out] at ho41 | (simp only [Int.reduceToNat] at ho41; rw [← Ny319.out] at ho41)); have n0_ := qb.mk (Kd.kn ho41 (qp ym)); have n1_ := qb.mk (q8 (g := gb316) (o := .cells #[.string a0_0, .int .i64 a0_1, .string a0_2] 40 (0, 0)) yx hb); have n2_ := qb.mk (qm ym hb); clear BK316; clear HB; have HO321 := n0_; have BK316 := n1_; have HB := n2_; clear n0_ n1_ n2_; clear hb ho41; obtain ⟨Ao42, co42, eo42⟩ := Kd.xo HO321.out; subst eo42) | ((with_reducible refine zl (f := 45) rfl ?_); refine xk (some 20) rfl rfl Tryz.func45 yh rfl #[.int .i64 6, .slice Ao42 y319.length co42] rfl cz ?_; (with_reducible refine (zw.calls k 6 _ _ y319 t322 t323 _ ?side1 ?side2 A4.out).mono ?_); (case side1 => repeat (first | exact (Kd.zq HO321.out).2.2 | (with_reducible refine Kd.xr ?_ _) | (with_reducible refine Kd.xt ?_ _) | (with_reducible refine Kd.kp ?_))); (case side2 => exact (Kd.zq HO321.out).2.1); rintro e w43 ⟨rfl, hb⟩; refine ⟨_, rfl, ?_⟩; have n0_ := qb.mk (Kd.z8 ut hb); have n1_ := qb.mk (q8 (g := gb316) (o := .cells #[.string a0_0, .int .i64 a0_1, .string a0_2] 40 (0, 0)) yx hb); have n2_ := qb.mk (qm ym hb); clear HO321; clear BK316; clear HB; have HO321 := n0_; have BK316 := n1_; have HB := n2_; clear n0_ n1_ n2_; (try clear hb); (try clear hb2); (try clear hk); (try clear hi)))
   go_ret2
   exact ⟨by first | rfl | (simp [qt, qu] <;> rfl) | (simp [*, qt, qu] <;> rfl), by repeat (first | (with_reducible first | exact HB.out | apply qc | apply qa | apply qd | refine qe ?_ GE316.out) | exact HB.out)⟩
 ·rw [if_neg c3] at H
  have c3b0 : (t318 == 0) = false := beq_eq_false_iff_ne.mpr c3
  have c3b1 : (t318 != 0) = true := bne_iff_ne.mpr c3
  simp only [Option.some.injEq, Prod.mk.injEq] at H
  obtain ⟨rfl, rfl⟩ := H
  go_enter Tryz.func44, Tryz.ntmps44
  go_wp2_with (first | ((with_reducible refine zm (N := 1) rfl ?_); refine zx ?hg (N := 1) ?hd (cs := #[.string a0_0, .int .i64 a0_1, .string a0_2]) (t := 40) ?hr ?_; (case hd => rfl); (case hg => rfl); (case hr => first | (go_simp; done) | (go_simp; rfl)); intro gb316 hg w44 hbox hb; have n0_ := qb.mk (qm cu hb); have n1_ := qb.mk (hbox); have n2_ := qb.mk ((by rw [hg]; exact (qp cu) : w.heap.size ≤ gb316)); have n3_ := qb.mk ((by rw [hg]; exact (qp cu) : w.heap.size ≤ gb316)); clear HB; have HB := n0_; have BK316 := n1_; have GW316 := n2_; have GE316 := n3_; clear n0_ n1_ n2_ n3_; clear hb hbox hg; have hcz45_0 : w44.cell? ⟨gb316, 0, none⟩ = some (.string a0_0) := (qo BK316.out 0).trans rfl; have hcz45_1 : w44.cell? ⟨gb316, 1, none⟩ = some (.int .i64 a0_1) := (qo BK316.out 1).trans rfl; have hcz45_2 : w44.cell? ⟨gb316, 2, none⟩ = some (.string a0_2) := (qo BK316.out 2).trans rfl; have hfz45_0 := qr BK316.out 0; have hfz45_1 := qr BK316.out 1; have hfz45_2 := qr BK316.out 2) | ((with_reducible refine zl (f := 73) rfl ?_); refine xk (some 11) rfl rfl Tryz.func73 yh rfl #[.string a0_0] rfl cz ?_; (with_reducible refine (kj.calls k a0_0 t317 t318 _ ?side1 A2.out).mono ?_); (case side1 => exact LibHeld.below HG.out ym); rintro e w46 ⟨rfl, hb⟩; refine ⟨_, rfl, ?_⟩; have n0_ := qb.mk (q8 (g := gb316) (o := .cells #[.string a0_0, .int .i64 a0_1, .string a0_2] 40 (0, 0)) yx hb); have n1_ := qb.mk (qm ym hb); clear BK316; clear HB; have BK316 := n0_; have HB := n1_; clear n0_ n1_; (try clear hb); (try clear hb2); (try clear hk); (try clear hi)))
  go_ret2
  exact ⟨by first | rfl | (simp [qt, qu] <;> rfl) | (simp [*, qt, qu] <;> rfl), by repeat (first | (with_reducible first | exact HB.out | apply qc | apply qa | apply qd | refine qe ?_ GE316.out) | exact HB.out)⟩
def sortS (l : List ByteArray) : List ByteArray := ((l.map (·.data.toList)).mergeSort fun x y => decide (x ≤ y)).map fun b => ⟨b.toArray⟩
theorem sortS_length (l : List ByteArray) : (sortS l).length = l.length := by simp [sortS]
open Go.Sort in
theorem sort_own {w : World} {base : Nat} {ok : Nat → Prop} {A : Option Addr} {n c : Nat} {l : List ByteArray} (h : Kd.R Kd.string 9 w base ok (.slice A n c) l) (hn : l.length ≤ 140737488355328) :
  Calls Tryz.prog 62 #[.slice A n c] w fun e w' => e = .returned (.tuple #[]) ∧ Kd.C Kd.string w' A n (sortS l) ∧ Below base w w' := by
 obtain ⟨rfl, hc, hr⟩ := Kd.zq h
 rcases Nat.eq_zero_or_pos l.length with h0 | hp
 ·have hl : l = [] := List.eq_nil_of_length_eq_zero h0
  subst hl
  refine (Tryz.sort_Strings_none A c w).mono ?_
  rintro e w' ⟨he, rfl⟩
  exact ⟨he, ⟨by rw [sortS_length], Nat.zero_le _, fun h => absurd h (Nat.lt_irrefl 0)⟩, Below.refl _ _⟩
 ·obtain ⟨g, cap, e1, hb, hlt, cells, hblk⟩ := Kd.R_form h hp
  injection e1 with e1 _ e3
  subst e1
  subst e3
  have hlen : (l.map (·.data.toList)).length = l.length := by simp
  have hcell : ∀ (j : Nat) x, l[j]? = some x → w.cell? ⟨g, j, none⟩ = some (.string x) := fun j x hj => by
   obtain ⟨ad, e, hc⟩ := hr.2.2 hp
   injection e with e
   subst e
   obtain ⟨cs, _, hK, hcc⟩ := hc j x hj
   have hc1 : cs = [.string x] := hK
   subst hc1
   have := hcc 0 (.string x) rfl
   rwa [show j * Kd.string.sz + 0 = j from by rw [show Kd.string.sz = 1 from rfl, Nat.mul_one, Nat.add_zero], show (⟨g, 0, none⟩ : Addr).add j = ⟨g, j, none⟩ from add_plain g j] at this
  have hH : Holds encStr w g 0 (l.map (·.data.toList)).toArray := fun j hj => by
   have hj' : j < l.length := by simpa using hj
   refine ⟨?_, by simp [World.frozen?, hblk]⟩
   rw [Nat.zero_add, hcell j l[j] (List.getElem?_eq_getElem hj')]
   simp [encStr, hj']
  have hcl := Tryz.sort_Strings g 0 c (l.map (·.data.toList)) w hH hlt (by rw [hlen]; omega)
  rw [hlen] at hcl
  refine hcl.mono ?_
  rintro e w' ⟨he, k, os, rfl⟩
  have hs : ((l.map (·.data.toList)).mergeSort fun x y => decide (x ≤ y)).toArray.size = (l.map (·.data.toList)).toArray.size := by simp
  have hH2 := holds_grow encStr (putRow encStr (Go.Sort.ahead w k) g 0 ((l.map (·.data.toList)).mergeSort fun x y => decide (x ≤ y)).toArray) os g 0 _ (by simpa [putRow, mapBlock, Go.Sort.ahead] using hlt) (holds_putRow encStr (Go.Sort.ahead w k) g 0 _ _ (holds_ahead encStr w k g 0 _ hH) hs)
  have hd : ((l.map (·.data.toList)).mergeSort fun x y => decide (x ≤ y)).length = l.length := by simp
  generalize hdd : (l.map (·.data.toList)).mergeSort (fun x y => decide (x ≤ y)) = d at hH2 hd hs ⊢
  have hss : sortS l = d.map fun b => (⟨b.toArray⟩ : ByteArray) := by unfold sortS; rw [hdd]
  rw [hss]
  refine ⟨he, ⟨by simp [hd], by omega, fun _ => ⟨⟨g, 0, none⟩, rfl, fun j p hj => ?_⟩⟩, ⟨rfl, rfl, rfl, ?_, fun q hq => ?_⟩⟩
  ·obtain ⟨hj1, hj2⟩ := List.getElem?_eq_some_iff.1 hj
   rw [List.length_map] at hj1
   have := (hH2 j (by simpa using hj1)).1
   refine ⟨[.string p], rfl, rfl, fun i u hu => ?_⟩
   match i, hu with
   | 0, hu =>
    obtain rfl : Value.string p = u := by simpa using hu
    rw [show j * Kd.string.sz + 0 = j from by rw [show Kd.string.sz = 1 from rfl, Nat.mul_one, Nat.add_zero], show (⟨g, 0, none⟩ : Addr).add j = ⟨g, j, none⟩ from add_plain g j]
    rw [Nat.zero_add] at this
    rw [this, ← hj2]
    simp [encStr, hj1]
   | i + 1, hu => simp at hu
  ·simp [grow, putRow, mapBlock, Go.Sort.ahead]
  ·have hqg : q ≠ g := by omega
   have hqs : q < w.heap.size := by omega
   simp [grow, putRow, mapBlock, Go.Sort.ahead, Array.getElem?_append, hqs, Array.getElem_modify, Ne.symm hqg]
def tlv_Order.f (a0 : List ByteArray) : Option ByteArray := if a0.length ≤ 1000000000 then strings_Join.f (sortS a0) (⟨#[]⟩ : ByteArray) else none
set_option maxHeartbeats 8000000 in
set_option maxRecDepth 100000 in
theorem tlv_Order.calls (A0 : Option Addr) (c0 : Nat) (l0 : List ByteArray) (r : ByteArray) (w : World) (hr0 : Kd.C Kd.string w A0 l0.length l0) (hc0 : l0.length ≤ c0) (h : tlv_Order.f l0 = some r) :
  Calls Tryz.prog 46 #[.slice A0 l0.length c0] w fun e w' => e = .returned (.string r) ∧ Below w.heap.size w w' := by
 unfold tlv_Order.f at h
 split at h
 case isFalse => exact absurd h uf
 rename_i hn
 have HN := qb.mk hn
 have HJ := qb.mk h
 have HR := qb.mk hr0
 have HC := qb.mk hc0
 clear h hn hr0 hc0
 go_enter Tryz.func46, Tryz.ntmps46
 go_upto_region 2 with ((with_reducible refine zm (N := 5) rfl ?_); refine Kd.vk Kd.string (Rr := Kd.string.K w) (w0 := w) (W := w) w.heap.size rfl (.const (.slice none 0 0)) (.tmp 4) 34 9 (.string ⟨#[]⟩) 16 rfl Tryz.underlying34 yh rfl (by decide) yg (.slice none 0 0) [] l0 A0 l0.length c0 (fun _ => True) (fun _ => False) rfl rfl (Kd.jx _ _ _ _ _) HR.out (fun x cs h => h) (fun _ hk => hk.elim) (fun _ _ => trivial) (Below.refl _ _) (Nat.le_refl _) (by have := HN.out; simp; omega) ?_; intro v1 W1 ho hb hg ho'; rw [List.nil_append] at ho; obtain ⟨A1, c1, rfl⟩ := Kd.xo ho; have HO := qb.mk ho; have HB := qb.mk hb; clear ho hb hg ho')
 go_upto_region 3 with (go_at_call 62; refine (sort_own HO.out (by have := HN.out; omega)).mono ?_; rintro e W2 ⟨rfl, hc2, hb2⟩; have HC2 := qb.mk hc2; have HB2 := qb.mk (HB.out.trans hb2); clear hc2 hb2)
 have hcl := strings_Join.calls A1 c1 (sortS l0) (⟨#[]⟩ : ByteArray) r W2 (by rw [sortS_length]; exact HC2.out) (by rw [sortS_length]; exact (Kd.zq HO.out).2.1) HJ.out
 rw [sortS_length] at hcl
 have HCL := qb.mk hcl
 clear hcl
 go_wp2_with (go_at_call 53; refine HCL.out.mono ?_; rintro e W3 ⟨rfl, hb3⟩; have HB3 := qb.mk (qm HB2.out hb3); clear hb3)
 go_ret
 exact ⟨rfl, HB3.out⟩
end Go.Proofs.YthdoohfdminfgaaGreatDoor.C
end
