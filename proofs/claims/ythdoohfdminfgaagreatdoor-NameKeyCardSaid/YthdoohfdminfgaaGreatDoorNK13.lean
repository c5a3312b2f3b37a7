/- Words, walks and plain laws that the claim rests on, gathered. -/
import Derived.Test.YthdoohfdminfgaaGreatDoorProg
import Derived.WalkSpells
import Derived.Below
import Derived.Deep.Draws
import Derived.Deep.AppendLies
import Derived.Maps.AppendAt
import Derived.OwnWalk
import Derived.Laws.BytesArg
import Derived.Laws.MakeOwn
import Derived.Laws.OwnMore
import Derived.Deep.OwnRows
import Derived.Tactics
import Derived.Lib.ConvBytes
import Derived.Laws.Slices
import Derived.WalkKit
import Derived.KernelRfl
import Derived.RowKit3
import Derived.Deep.LoopGhost
import Derived.Deep.QuietTactic
import Derived.BigQuiet
import Derived.WideLaws
import Derived.Deep.DeepCutAuto
import Derived.Deep.CutBlock
import Derived.Deep.RegionHeld3
import Derived.Laws.Rows
import Derived.Lib.AppendStr
import Derived.ArgAppend
import Derived.Laws.IdiomCopy
import Derived.OrdersHeld
import Derived.Laws.BitsLemmas
import Derived.RowKit
import Derived.WalkLawsBesides
import Derived.Shelf.Strings.Builder1
import Derived.Shelf.Strings.Builder2
import Derived.Shelf.Strings.OnBuilder
import Derived.Shelf.Small.Bits
import Derived.Shelf.Small.Strs
import Derived.Shelf.Strings.BuilderF
import Derived.Shelf.Strings.BuilderK
import Derived.Shelf.Utf8.RuneCount
import Derived.Shelf.Strings.Builder2Cap
import Derived.Shelf.Strconv.Itoa0
import Derived.Shelf.Strconv.Itoa1
import Derived.Shelf.LaysM
import Derived.Shelf.Strconv.Itoa2
import Derived.Shelf.Strconv.Itoa3
import Derived.Shelf.Strings.Search1
import Derived.Shelf.Strings.Search2
import Derived.Shelf.Strings.Search3
import Derived.Shelf.Strings.Cut
import Derived.Shelf.Strings.Count
import Derived.Shelf.Strings.Shaped
import Derived.Shelf.Sort.Plain
import Derived.Ground.GgsProg
import Derived.Shelf.GgSortFunc.Insertion
import Derived.Shelf.GgSortFunc.Small
import Derived.Shelf.GgSortFunc.InsertionK
import Derived.Shelf.GgSortFunc.SmallK
import Derived.Shelf.GgSortFunc.Tiny
import Derived.Shelf.GgSortFunc.Compose
import Derived.Shelf.GgSortFunc.LotD
import Derived.Shelf.GgSortFunc.Pivot
import Derived.Shelf.GgSortFunc.Partition
import Derived.Shelf.GgSortFunc.Pdq
import Derived.Shelf.GgSortFunc.Whole
import Derived.Shelf.Strings.Prefix
import Derived.Shelf.Strings.Split
import Derived.Shelf.Strings.SplitShaped
import Derived.Shelf.Unicode.Decode
import Derived.Shelf.Strings.RuneCount
import Derived.Shelf.Strings.Explode
import Derived.Shelf.Unicode.DecodeSlow
import Derived.Shelf.Unicode.DecodeAny
import Derived.Shelf.Strings.BuilderCap
import Derived.Shelf.Slices.In.SortNone
import Derived.Shelf.Slices.In.SortNone2
import Derived.Shelf.SlSortFunc.Xorshift
import Derived.Shelf.SlSortFuncK.ComposeK
import Derived.Shelf.SlSortFuncK.SiftDownK
import Derived.Shelf.SlSortFuncK.HeapSortK
import Derived.Shelf.SlSortFuncK.PartialInsertionK
import Derived.Shelf.SlSortFuncK.LotDK
import Derived.Shelf.SlSortFuncK.PivotK
import Derived.Shelf.SlSortFuncK.PartitionK
import Derived.Shelf.SlSortFunc.SiftDown
import Derived.Shelf.SlSortFunc.HeapSort
import Derived.Shelf.SlSortFunc.PartialInsertion
import Derived.Shelf.SlSortFuncK.PdqK
import Derived.Shelf.SlSortFuncK.WholeK
import Derived.Laws.StructEq
import Derived.Lib.SplitLaws
import Derived.Deep.Slices
import Derived.Deep.Strs
import Derived.ChangeSame
import Derived.WideShapes
import Derived.Test.YthdoohfdminfgaaGreatDoorNK0
import Derived.Test.YthdoohfdminfgaaGreatDoorNK1
import Derived.Test.YthdoohfdminfgaaGreatDoorNK2
import Derived.Test.YthdoohfdminfgaaGreatDoorNK3
import Derived.Test.YthdoohfdminfgaaGreatDoorNK4
import Derived.Test.YthdoohfdminfgaaGreatDoorNK5
import Derived.Test.YthdoohfdminfgaaGreatDoorNK6
import Derived.Test.YthdoohfdminfgaaGreatDoorNK7
import Derived.Test.YthdoohfdminfgaaGreatDoorNK8
import Derived.Test.YthdoohfdminfgaaGreatDoorNK9
import Derived.Test.YthdoohfdminfgaaGreatDoorNK10
import Derived.Test.YthdoohfdminfgaaGreatDoorNK11
import Derived.Test.YthdoohfdminfgaaGreatDoorNK12
import Derived.Test.YthdoohfdminfgaaGreatDoorNKc
namespace Go.Proofs.YthdoohfdminfgaaGreatDoorW.PrintLast
end Go.Proofs.YthdoohfdminfgaaGreatDoorW.PrintLast
namespace Go.Proofs.YthdoohfdminfgaaGreatDoorW.PrintMore
end Go.Proofs.YthdoohfdminfgaaGreatDoorW.PrintMore
namespace Go.Proofs.YthdoohfdminfgaaGreatDoorW.PrintWords
end Go.Proofs.YthdoohfdminfgaaGreatDoorW.PrintWords
section
namespace Go.Proofs.YthdoohfdminfgaaGreatDoor.C
open Go.RowKit Go.Proofs.YthdoohfdminfgaaGreatDoorW.PrintWords Go.Proofs.YthdoohfdminfgaaGreatDoorW.PrintLast Go.Proofs.YthdoohfdminfgaaGreatDoorW.PrintMore
attribute [local go_sem] xa z7 xq xr zx zy xc z8
set_option linter.unusedVariables false
set_option linter.unusedSimpArgs false
def sortS (l : List ByteArray) : List ByteArray := ((l.map (·.data.toList)).mergeSort fun x y => decide (x ≤ y)).map fun b => ⟨b.toArray⟩
theorem sortS_length (l : List ByteArray) : (sortS l).length = l.length := by simp [sortS]
open Go.Sort in
theorem sort_own {w : World} {base : Nat} {ok : Nat → Prop} {A : Option Addr} {n c : Nat} {l : List ByteArray} (h : Kd.R Kd.string 9 w base ok (.slice A n c) l) (hn : l.length ≤ 140737488355328) :
  Calls Tryz.prog 62 #[.slice A n c] w fun e w' => e = .returned (.tuple #[]) ∧ Kd.C Kd.string w' A n (sortS l) ∧ Below base w w' := by
 obtain ⟨rfl, hc, hr⟩ := Kd.xp h
 rcases Nat.eq_zero_or_pos l.length with h0 | hp
 ·have hl : l = [] := List.eq_nil_of_length_eq_zero h0
  subst hl
  refine (Tryz.sort_Strings_none A c w).mono ?_
  rintro e w' ⟨he, rfl⟩
  exact ⟨he, ⟨by rw [sortS_length], Nat.zero_le _, fun h => absurd h (Nat.lt_irrefl 0)⟩, Below.refl _ _⟩
 ·obtain ⟨g, cap, e1, hb, hlt, cells, hblk⟩ := Kd.R_form h hp
  injection e1 with e1 _ e3
  subst e1
  subst e3
  have hlen : (l.map (·.data.toList)).length = l.length := by simp
  have hcell : ∀ (j : Nat) x, l[j]? = some x → w.cell? ⟨g, j, none⟩ = some (.string x) := fun j x hj => by
   obtain ⟨ad, e, hc⟩ := hr.2.2 hp
   injection e with e
   subst e
   obtain ⟨cs, _, hK, hcc⟩ := hc j x hj
   have hc1 : cs = [.string x] := hK
   subst hc1
   have := hcc 0 (.string x) rfl
   rwa [show j * Kd.string.sz + 0 = j from by rw [show Kd.string.sz = 1 from rfl, Nat.mul_one, Nat.add_zero], show (⟨g, 0, none⟩ : Addr).add j = ⟨g, j, none⟩ from add_plain g j] at this
  have hH : Holds encStr w g 0 (l.map (·.data.toList)).toArray := fun j hj => by
   have hj' : j < l.length := by simpa using hj
   refine ⟨?_, by simp [World.frozen?, hblk]⟩
   rw [Nat.zero_add, hcell j l[j] (List.getElem?_eq_getElem hj')]
   simp [encStr, hj']
  have hcl := Tryz.sort_Strings g 0 c (l.map (·.data.toList)) w hH hlt (by rw [hlen]; omega)
  rw [hlen] at hcl
  refine hcl.mono ?_
  rintro e w' ⟨he, k, os, rfl⟩
  have hs : ((l.map (·.data.toList)).mergeSort fun x y => decide (x ≤ y)).toArray.size = (l.map (·.data.toList)).toArray.size := by simp
  have hH2 := holds_grow encStr (putRow encStr (Go.Sort.ahead w k) g 0 ((l.map (·.data.toList)).mergeSort fun x y => decide (x ≤ y)).toArray) os g 0 _ (by simpa [putRow, mapBlock, Go.Sort.ahead] using hlt) (holds_putRow encStr (Go.Sort.ahead w k) g 0 _ _ (holds_ahead encStr w k g 0 _ hH) hs)
  have hd : ((l.map (·.data.toList)).mergeSort fun x y => decide (x ≤ y)).length = l.length := by simp
  generalize hdd : (l.map (·.data.toList)).mergeSort (fun x y => decide (x ≤ y)) = d at hH2 hd hs ⊢
  have hss : sortS l = d.map fun b => (⟨b.toArray⟩ : ByteArray) := by unfold sortS; rw [hdd]
  rw [hss]
  refine ⟨he, ⟨by simp [hd], by omega, fun _ => ⟨⟨g, 0, none⟩, rfl, fun j p hj => ?_⟩⟩, ⟨rfl, rfl, rfl, ?_, fun q hq => ?_⟩⟩
  ·obtain ⟨hj1, hj2⟩ := List.getElem?_eq_some_iff.1 hj
   rw [List.length_map] at hj1
   have := (hH2 j (by simpa using hj1)).1
   refine ⟨[.string p], rfl, rfl, fun i u hu => ?_⟩
   match i, hu with
   | 0, hu =>
    obtain rfl : Value.string p = u := by simpa using hu
    rw [show j * Kd.string.sz + 0 = j from by rw [show Kd.string.sz = 1 from rfl, Nat.mul_one, Nat.add_zero], show (⟨g, 0, none⟩ : Addr).add j = ⟨g, j, none⟩ from add_plain g j]
    rw [Nat.zero_add] at this
    rw [this, ← hj2]
    simp [encStr, hj1]
   | i + 1, hu => simp at hu
  ·simp [grow, putRow, mapBlock, Go.Sort.ahead]
  ·have hqg : q ≠ g := by omega
   have hqs : q < w.heap.size := by omega
   simp [grow, putRow, mapBlock, Go.Sort.ahead, Array.getElem?_append, hqs, Array.getElem_modify, Ne.symm hqg]
end Go.Proofs.YthdoohfdminfgaaGreatDoor.C
end
section
namespace Go.Proofs.YthdoohfdminfgaaGreatDoor.C
open Go.RowKit Go.Proofs.YthdoohfdminfgaaGreatDoorW.PrintWords Go.Proofs.YthdoohfdminfgaaGreatDoorW.PrintLast Go.Proofs.YthdoohfdminfgaaGreatDoorW.PrintMore
attribute [local go_sem] xa z7 xq xr zx zy xc z8
set_option linter.unusedVariables false
set_option linter.unusedSimpArgs false
end Go.Proofs.YthdoohfdminfgaaGreatDoor.C
end
section
namespace Go.Proofs.YthdoohfdminfgaaGreatDoor.C
open Go.RowKit Go.Proofs.YthdoohfdminfgaaGreatDoorW.PrintWords Go.Proofs.YthdoohfdminfgaaGreatDoorW.PrintLast Go.Proofs.YthdoohfdminfgaaGreatDoorW.PrintMore
attribute [local go_sem] xa z7 xq xr zx zy xc z8
set_option linter.unusedVariables false
set_option linter.unusedSimpArgs false
end Go.Proofs.YthdoohfdminfgaaGreatDoor.C
end
section
namespace Go.Proofs.YthdoohfdminfgaaGreatDoor.C
open Go.RowKit Go.Proofs.YthdoohfdminfgaaGreatDoorW.PrintWords Go.Proofs.YthdoohfdminfgaaGreatDoorW.PrintLast Go.Proofs.YthdoohfdminfgaaGreatDoorW.PrintMore
attribute [local go_sem] xa z7 xq xr zx zy xc z8
set_option linter.unusedVariables false
set_option linter.unusedSimpArgs false
end Go.Proofs.YthdoohfdminfgaaGreatDoor.C
end
section
namespace Go.Proofs.YthdoohfdminfgaaGreatDoor.C
open Go.RowKit Go.Proofs.YthdoohfdminfgaaGreatDoorW.PrintWords Go.Proofs.YthdoohfdminfgaaGreatDoorW.PrintLast Go.Proofs.YthdoohfdminfgaaGreatDoorW.PrintMore
attribute [local go_sem] xa z7 xq xr zx zy xc z8
set_option linter.unusedVariables false
set_option linter.unusedSimpArgs false
end Go.Proofs.YthdoohfdminfgaaGreatDoor.C
end
section
namespace Go.Proofs.YthdoohfdminfgaaGreatDoor.C
open Go.RowKit Go.Proofs.YthdoohfdminfgaaGreatDoorW.PrintWords Go.Proofs.YthdoohfdminfgaaGreatDoorW.PrintLast Go.Proofs.YthdoohfdminfgaaGreatDoorW.PrintMore
attribute [local go_sem] xa z7 xq xr zx zy xc z8
set_option linter.unusedVariables false
set_option linter.unusedSimpArgs false
end Go.Proofs.YthdoohfdminfgaaGreatDoor.C
end
section
namespace Go.Proofs.YthdoohfdminfgaaGreatDoor.C
open Go.RowKit Go.Proofs.YthdoohfdminfgaaGreatDoorW.PrintWords Go.Proofs.YthdoohfdminfgaaGreatDoorW.PrintLast Go.Proofs.YthdoohfdminfgaaGreatDoorW.PrintMore
attribute [local go_sem] xa z7 xq xr zx zy xc z8
set_option linter.unusedVariables false
set_option linter.unusedSimpArgs false
end Go.Proofs.YthdoohfdminfgaaGreatDoor.C
end
section
namespace Go.Proofs.YthdoohfdminfgaaGreatDoor.C
open Go.RowKit Go.Proofs.YthdoohfdminfgaaGreatDoorW.PrintWords Go.Proofs.YthdoohfdminfgaaGreatDoorW.PrintLast Go.Proofs.YthdoohfdminfgaaGreatDoorW.PrintMore
attribute [local go_sem] xa z7 xq xr zx zy xc z8
set_option linter.unusedVariables false
set_option linter.unusedSimpArgs false
end Go.Proofs.YthdoohfdminfgaaGreatDoor.C
end
section
namespace Go.Proofs.YthdoohfdminfgaaGreatDoor.Pl
open Go.RowKit Go.Proofs.YthdoohfdminfgaaGreatDoorW.PrintWords Go.Proofs.YthdoohfdminfgaaGreatDoor.C
set_option linter.unusedSimpArgs false
set_option linter.unusedVariables false
set_option maxRecDepth 100000
def foldStep (st : List Int × Bool) (c : Int) : List Int × Bool := if c = 32 then (st.1, decide ((st.1.length : Int) > 0)) else (st.1 ++ (if st.2 then [32] else []) ++ [lowC c], false)
def foldP (l : List Int) : List Int := (l.foldl foldStep ([], false)).1
def F (s : ByteArray) : ByteArray := strOfNums (foldP (bytesOf s))
theorem lowC_low (c : Int) : lowC (lowC c) = lowC c := by
 unfold lowC
 split
 ·split <;> omega
 ·rfl
theorem lowC_space (c : Int) : lowC c = 32 ↔ c = 32 := by unfold lowC; split <;> omega
theorem foldStep_low (st : List Int × Bool) (c : Int) : foldStep st (lowC c) = foldStep st c := by
 unfold foldStep
 by_cases h : c = 32
 ·rw [if_pos h, if_pos ((lowC_space c).2 h)]
 ·rw [if_neg h, if_neg (fun h' => h ((lowC_space c).1 h')), lowC_low]
theorem foldP_low (l : List Int) : foldP (l.map lowC) = foldP l := by
 unfold foldP
 rw [List.foldl_map]
 congr 2
 funext st c
 exact foldStep_low st c
theorem foldP_space (l : List Int) : foldP (32 :: l) = foldP l := rfl
theorem rd_cons {y : List Int} {i : Nat} {c : Int} {r : List Int} (h : y.drop i = c :: r) : i < y.length ∧ rd y i = c ∧ y.drop (i + 1) = r := by
 have hl : i < y.length := by
  rcases Nat.lt_or_ge i y.length with h' | h'
  ·exact h'
  ·rw [List.drop_eq_nil_of_le h'] at h; cases h
 rw [List.drop_eq_getElem_cons hl] at h
 refine ⟨hl, ?_, (List.cons.inj h).2⟩
 unfold rd
 rw [Int.toNat_natCast, List.getD_eq_getElem?_getD, List.getElem?_eq_getElem hl]
 exact (List.cons.inj h).1
theorem push_t (y : List Int) (hy : y.length ≤ 1000000000) (c : Int) (i : Nat) (out : List Int) (gap : Bool) (r : ByteArray) (hi : i < y.length) (ho : out.length ≤ 2 * i + 1)
  (h : Ev (fun k => zp.l0 k (out ++ [lowC c]) gap y (y.length : Int) ((i + 1 : Nat) : Int)) r) : Ev (fun k => zp.j1 k out gap c y (y.length : Int) i) r := by
 refine Ev.step (fun k => by rw [zp.j1]) ?_
 rw [w64 (n := (i : Int) + 1) yg yg]
 by_cases h1 : c ≥ 65
 ·refine Ev.pos h1 ?_
  by_cases h2 : c ≤ 90
  ·refine Ev.pos h2 (Ev.pos yg ?_)
   rw [show (c + 32) % 256 = lowC c from by unfold lowC; rw [if_pos ⟨h1, h2⟩]; omega]
   exact h
  ·refine Ev.neg h2 (Ev.pos yg ?_)
   rw [show [c] = [lowC c] from by unfold lowC; rw [if_neg yg]]
   exact h
 ·refine Ev.neg h1 (Ev.pos yg ?_)
  rw [show [c] = [lowC c] from by unfold lowC; rw [if_neg yg]]
  exact h
theorem Fold_t0 (y : List Int) (hy : y.length ≤ 1000000000) : ∀ (rest : List Int) (i : Nat) (out : List Int) (gap : Bool), y.drop i = rest → out.length ≤ 2 * i → i ≤ y.length →
  Ev (fun k => zp.l0 k out gap y (y.length : Int) i) (strOfNums (rest.foldl foldStep (out, gap)).1)
 | [], i, out, gap, h, ho, hi => by
  have := List.drop_eq_nil_iff.1 h
  refine Ev.step (fun k => by rw [zp.l0]) ?_
  exact Ev.neg yg (Ev.now _)
 | c :: rest, i, out, gap, h, ho, hi => by
  obtain ⟨h1, h2, h3⟩ := rd_cons h
  refine Ev.step (fun k => by rw [zp.l0]) ?_
  refine Ev.pos yg (Ev.pos yg (Ev.pos yg ?_))
  rw [h2, List.foldl_cons]
  by_cases hc : c = 32
  ·refine Ev.pos hc ?_
   rw [w64 (n := (i : Int) + 1) yg yg, show foldStep (out, gap) c = (out, decide ((out.length : Int) > 0)) from by unfold foldStep; rw [if_pos hc]]
   exact Fold_t0 y hy rest (i + 1) out _ h3 yg yg
  ·refine Ev.neg hc ?_
   rw [show foldStep (out, gap) c = (out ++ (if gap then [32] else []) ++ [lowC c], false) from by unfold foldStep; rw [if_neg hc]]
   cases gap with
   | true =>
    refine Ev.pos rfl (Ev.pos yg ?_)
    exact push_t y hy c i (out ++ [32]) false _ h1 (by simp; omega) (Fold_t0 y hy rest (i + 1) _ false h3 (by simp; omega) yg)
   | false =>
    refine Ev.neg yt ?_
    rw [show out ++ (if false = true then [32] else []) = out from by simp]
    exact push_t y hy c i out false _ h1 yg (Fold_t0 y hy rest (i + 1) _ false h3 (by simp; omega) yg)
theorem Fold_t (s : ByteArray) (hs : s.size ≤ 1000000000) : Ev (fun k => zp.f k s) (F s) := by
 unfold zp.f
 refine Ev.pos yg (Ev.bnd rfl ?_)
 exact Fold_t0 (bytesOf s) (by rw [bytesOf_length]; exact hs) (bytesOf s) 0 [] false rfl (Nat.zero_le _) (Nat.zero_le _)
def FI (out : List Int) (gap : Bool) : Prop := (gap = true → out ≠ []) ∧ ∀ c, out.getLast? = some c → c ≠ 32
theorem rd_last (l : List Int) (c : Int) : rd (l ++ [c]) (((l ++ [c]).length : Int) - 1) = c := by
 unfold rd
 rw [show (((l ++ [c]).length : Int) - 1).toNat = l.length from by simp, List.getD_eq_getElem?_getD]
 simp
theorem rd_last' {l : List Int} {c : Int} (h : l.getLast? = some c) : rd l ((l.length : Int) - 1) = c := by
 obtain ⟨m, rfl⟩ := List.getLast?_eq_some_iff.1 h
 exact rd_last m c
theorem last_some {l : List Int} (h : l ≠ []) : ∃ c, l.getLast? = some c := by
 cases hl : l.getLast? with
 | some c => exact ⟨c, rfl⟩
 | none => exact absurd (List.getLast?_eq_none_iff.1 hl) h
theorem Fold_r0 (t : ByteArray) (ht : t.size ≤ 1000000000) (hlow : ∀ b ∈ L t, lowC ((b.toNat : Nat) : Int) = (b.toNat : Nat)) : ∀ (rest : List UInt8) (i : Nat) (out : List Int) (gap : Bool), (L t).drop i = rest → out.length ≤ 2 * i → i ≤ t.size → FI out gap →
  Ev (fun k => qy.l0 k t (out ++ (if gap then [32] else [])) i) (strOfNums ((rest.map (fun b => ((b.toNat : Nat) : Int))).foldl foldStep (out, gap)).1)
 | [], i, out, gap, h, ho, hi, hf => by
  have h1 := at_nil h
  refine Ev.step (fun k => by rw [qy.l0]) ?_
  refine Ev.neg yg ?_
  cases gap with
  | true =>
   have hl : (out ++ [32]).length = out.length + 1 := by simp
   simp only [if_true]
   refine Ev.pos (by rw [hl]; omega) ?_
   rw [w64 (n := ((out ++ [(32 : Int)]).length : Int) - 1) yg (by rw [hl]; omega)]
   refine Ev.pos yg (Ev.pos yg (Ev.pos (rd_last out 32) (Ev.pos yg (Ev.to (Ev.now _) ?_))))
   rw [show (((out ++ [(32 : Int)]).length : Int) - 1).toNat = out.length from by rw [hl]; omega]
   simp
  | false =>
   simp only [Bool.false_eq_true, if_false, List.append_nil]
   by_cases he : out = []
   ·subst he
    exact Ev.neg yt (Ev.now _)
   ·have hp := List.length_pos_iff.2 he
    refine Ev.pos yg ?_
    obtain ⟨c, hc⟩ := last_some he
    rw [w64 (n := (out.length : Int) - 1) yg yg]
    refine Ev.pos yg (Ev.pos yg (Ev.neg ?_ (Ev.now _)))
    rw [rd_last' hc]
    exact hf.2 c hc
 | b :: rest, i, out, gap, h, ho, hi, hf => by
  obtain ⟨h1, h2, h3⟩ := at_cons h
  have hb := hlow b (List.mem_of_mem_drop (by rw [h]; exact List.mem_cons_self))
  have e1 : wrap64 ((i : Int) + 1) = ((i + 1 : Nat) : Int) := w64 yg yg
  rw [List.map_cons, List.foldl_cons]
  refine Ev.step (fun k => by rw [qy.l0]) ?_
  refine Ev.pos yg (Ev.pos yg ?_)
  rw [h2]
  by_cases hc : ((b.toNat : Nat) : Int) = 32
  ·refine Ev.pos hc ?_
   rw [show foldStep (out, gap) ((b.toNat : Nat) : Int) = (out, decide ((out.length : Int) > 0)) from by unfold foldStep; rw [if_pos hc]]
   cases gap with
   | true =>
    have hp := List.length_pos_iff.2 (hf.1 rfl)
    have hl : (out ++ [32]).length = out.length + 1 := by simp
    simp only [if_true]
    refine Ev.pos (by rw [hl]; omega) ?_
    rw [w64 (n := ((out ++ [(32 : Int)]).length : Int) - 1) yg (by rw [hl]; omega)]
    refine Ev.pos yg (Ev.pos yg ?_)
    rw [rd_last out 32]
    refine Ev.step (fun k => by rw [qy.j1]) ?_
    refine Ev.neg yt ?_
    rw [e1, show decide ((out.length : Int) > 0) = true from decide_eq_true yg]
    have := Fold_r0 t ht hlow rest (i + 1) out true h3 yg yg ⟨fun _ => hf.1 rfl, hf.2⟩
    simpa using this
   | false =>
    simp only [Bool.false_eq_true, if_false, List.append_nil]
    by_cases he : out = []
    ·subst he
     refine Ev.neg yt ?_
     refine Ev.step (fun k => by rw [qy.j1]) ?_
     refine Ev.neg yt ?_
     rw [e1]
     have := Fold_r0 t ht hlow rest (i + 1) [] false h3 yg yg hf
     simpa using this
    ·have hp := List.length_pos_iff.2 he
     refine Ev.pos yg ?_
     obtain ⟨c, hcl⟩ := last_some he
     rw [w64 (n := (out.length : Int) - 1) yg yg]
     refine Ev.pos yg (Ev.pos yg ?_)
     rw [rd_last' hcl, show (c != 32) = true from bne_iff_ne.mpr (hf.2 c hcl)]
     refine Ev.step (fun k => by rw [qy.j1]) ?_
     refine Ev.pos rfl (Ev.pos yg (Ev.pos yg (Ev.pos yg ?_)))
     rw [e1, h2, hc, show decide ((out.length : Int) > 0) = true from decide_eq_true yg]
     have := Fold_r0 t ht hlow rest (i + 1) out true h3 yg yg ⟨fun _ => he, hf.2⟩
     simpa using this
  ·refine Ev.neg hc ?_
   rw [show foldStep (out, gap) ((b.toNat : Nat) : Int) = (out ++ (if gap then [32] else []) ++ [((b.toNat : Nat) : Int)], false) from by unfold foldStep; rw [if_neg hc, hb]]
   have hl : (out ++ (if gap then [32] else [])).length ≤ 2 * i + 1 := by cases gap <;> simp <;> omega
   refine Ev.step (fun k => by rw [qy.j1]) ?_
   refine Ev.pos rfl (Ev.pos yg (Ev.pos yg (Ev.pos yg ?_)))
   rw [e1, h2]
   have := Fold_r0 t ht hlow rest (i + 1) (out ++ (if gap then [32] else []) ++ [((b.toNat : Nat) : Int)]) false h3 (by simp at hl ⊢; omega) yg ⟨fun h => absurd h yt, fun c h => by
    rw [List.getLast?_append] at h
    obtain rfl : ((b.toNat : Nat) : Int) = c := by simpa using h
    exact hc⟩
   simpa using this
theorem low_byte (b : UInt8) : ((UInt8.ofNat (lowC (b.toNat : Int)).toNat).toNat : Int) = lowC (b.toNat : Int) := by
 have h := b.toNat_lt
 unfold lowC
 split <;> simp <;> omega
theorem Fold_r (s : ByteArray) (hs : s.size ≤ 1000000000) : Ev (fun k => qy.f k s) (F s) := by
 unfold qy.f
 have hL : L (strOfNums ((bytesOf s).map lowC)) = (L s).map fun b => UInt8.ofNat (lowC (b.toNat : Int)).toNat := by
  rw [L_nums, List.map_map]
  unfold bytesOf
  rw [List.map_map]
  rfl
 have hm : (L (strOfNums ((bytesOf s).map lowC))).map (fun b => ((b.toNat : Nat) : Int)) = (bytesOf s).map lowC := by
  rw [hL]
  unfold bytesOf
  rw [List.map_map, List.map_map]
  apply List.map_congr_left
  intro b _
  exact low_byte b
 refine Ev.bnd (a := strOfNums ((bytesOf s).map lowC)) (by unfold xl.f; rw [if_pos yg]) ?_
 have := Fold_r0 (strOfNums ((bytesOf s).map lowC)) (by rw [strOfNums_size, List.length_map, bytesOf_length]; exact hs) (fun b hb => by
  rw [hL] at hb
  obtain ⟨c, _, rfl⟩ := List.mem_map.1 hb
  rw [low_byte c]
  exact lowC_low _) _ 0 [] false rfl (Nat.zero_le _) (Nat.zero_le _) ⟨fun h => absurd h yt, fun c h => by simp at h⟩
 rw [List.drop_zero, hm] at this
 have h2 : ((bytesOf s).map lowC).foldl foldStep ([], false) = (bytesOf s).foldl foldStep ([], false) := by
  rw [List.foldl_map]
  congr 1
  funext st c
  exact foldStep_low st c
 rw [h2] at this
 exact this
def eqA (a b : S40) : Bool := if a.f0.toList = b.f0.toList then (F a.f2).toList == (F b.f2).toList else false
def hasS (l : List S40) (a : S40) : Bool := l.any fun b => eqA a b
def sameS (a b : List S40) : Bool := decide (a.length = b.length) && (a.zip b).all fun p => hasS b p.1 && hasS a p.2
def withinS (n base : List (List S40)) : Bool := decide (base.length ≤ n.length) && (n.zip base).all fun p => sameS p.1 p.2
def matchS (a b : List (List S40)) : Bool := decide (a.length = b.length) && withinS a b
theorem eqA_comm (a b : S40) : eqA a b = eqA b a := by
 unfold eqA
 by_cases h : a.f0.toList = b.f0.toList
 ·rw [if_pos h, if_pos h.symm]
  exact Bool.eq_iff_iff.2 ⟨fun h => by simpa using (beq_iff_eq.1 h).symm, fun h => by simpa using (beq_iff_eq.1 h).symm⟩
 ·rw [if_neg h, if_neg (fun h' => h h'.symm)]
def Fine (l : List S40) : Prop := l.length ≤ 1000000000 ∧ ∀ a ∈ l, a.f2.size ≤ 1000000000
def FineN (n : List (List S40)) : Prop := n.length ≤ 1000000000 ∧ ∀ r ∈ n, Fine r
theorem row40 {l : List S40} {i : Nat} {a : S40} {r : List S40} (h : l.drop i = a :: r) : i < l.length ∧ qn l i = a ∧ l.drop (i + 1) = r := by
 have hl : i < l.length := by
  rcases Nat.lt_or_ge i l.length with h' | h'
  ·exact h'
  ·rw [List.drop_eq_nil_of_le h'] at h; cases h
 rw [List.drop_eq_getElem_cons hl] at h
 refine ⟨hl, ?_, (List.cons.inj h).2⟩
 unfold qn
 rw [Int.toNat_natCast, List.getD_eq_getElem?_getD, List.getElem?_eq_getElem hl]
 exact (List.cons.inj h).1
theorem Match_r (x y : ByteArray) (hx : x.size ≤ 1000000000) (hy : y.size ≤ 1000000000) : Ev (fun k => zv.f k x y) ((F x).toList == (F y).toList) := by
 unfold zv.f
 exact Ev.bind (Fold_r x hx) (Ev.bind (f := fun _ t => some _) (Fold_r y hy) (Ev.now _))
theorem has_r0 (l : List S40) (hl : Fine l) (b0 : ByteArray) (b1 : Int) (b2 : ByteArray) (hb : b2.size ≤ 1000000000) : ∀ (rest : List S40) (i : Nat), l.drop i = rest → i ≤ l.length →
  Ev (fun k => zd.l0 k l (l.length : Int) i b0 b1 b2) (rest.any fun b => eqA b ⟨b0, b1, b2⟩)
 | [], i, h, hi => by
  have := List.drop_eq_nil_iff.1 h
  refine Ev.step (fun k => by rw [zd.l0]) ?_
  exact Ev.neg yg (Ev.now _)
 | a :: rest, i, h, hi => by
  obtain ⟨h1, h2, h3⟩ := row40 h
  have hl1 := hl.1
  have ha := hl.2 a (List.mem_of_mem_drop (by rw [h]; exact List.mem_cons_self))
  refine Ev.step (fun k => by rw [zd.l0]) ?_
  rw [h2, w64 (n := (i : Int) + 1) yg yg, List.any_cons]
  refine Ev.pos yg (Ev.pos yg (Ev.pos yg ?_))
  have ih := has_r0 l hl b0 b1 b2 hb rest (i + 1) h3 yg
  by_cases he : a.f0.toList = b0.toList
  ·refine Ev.pos he (Ev.bind (Match_r a.f2 b2 ha hb) ?_)
   rw [show eqA a ⟨b0, b1, b2⟩ = ((F a.f2).toList == (F b2).toList) from by unfold eqA; rw [if_pos he]]
   by_cases hm : ((F a.f2).toList == (F b2).toList) = true
   ·rw [hm]
    exact Ev.pos rfl (Ev.now _)
   ·rw [Bool.eq_false_iff.mpr hm]
    refine Ev.neg yt ?_
    simpa using ih
  ·refine Ev.neg he ?_
   rw [show eqA a ⟨b0, b1, b2⟩ = false from by unfold eqA; rw [if_neg he]]
   simpa using ih
theorem has_r (l : List S40) (hl : Fine l) (a : S40) (ha : a.f2.size ≤ 1000000000) : Ev (fun k => zd.f k l a.f0 a.f1 a.f2) (hasS l a) := by
 unfold zd.f
 have := has_r0 l hl a.f0 a.f1 a.f2 ha l 0 rfl (Nat.zero_le _)
 refine Ev.to this ?_
 unfold hasS
 congr 1
 funext b
 exact eqA_comm _ _
theorem zip_drop {α β : Type} {a : List α} {b : List β} (i : Nat) (ha : i < a.length) (hb : i < b.length) : (a.zip b).drop i = (a[i], b[i]) :: (a.zip b).drop (i + 1) := by
 have h : i < (a.zip b).length := by rw [List.length_zip]; omega
 rw [List.drop_eq_getElem_cons h, List.getElem_zip]
theorem at40 {l : List S40} {i : Nat} (h : i < l.length) : qn l (i : Int) = l[i] := by
 unfold qn
 rw [Int.toNat_natCast, List.getD_eq_getElem?_getD, List.getElem?_eq_getElem h]
 rfl
theorem atL5 {l : List (List S40)} {i : Nat} (h : i < l.length) : xx l (i : Int) = l[i] := by
 unfold xx
 rw [Int.toNat_natCast, List.getD_eq_getElem?_getD, List.getElem?_eq_getElem h]
 rfl
theorem same_r0 (a b : List S40) (ha : Fine a) (hb : Fine b) (hab : a.length = b.length) : ∀ (d i : Nat), i + d = a.length → Ev (fun k => q8.l0 k a b (a.length : Int) i) (((a.zip b).drop i).all fun p => hasS b p.1 && hasS a p.2)
 | 0, i, h => by
  refine Ev.step (fun k => by rw [q8.l0]) ?_
  rw [List.drop_eq_nil_of_le (by rw [List.length_zip]; omega)]
  exact Ev.neg yg (Ev.now _)
 | d + 1, i, h => by
  have ha1 := ha.1
  have h1 : i < a.length := by omega
  have h2 : i < b.length := by omega
  have ih := same_r0 a b ha hb hab d (i + 1) yg
  refine Ev.step (fun k => by rw [q8.l0]) ?_
  rw [zip_drop i h1 h2, List.all_cons, at40 h1, at40 h2, w64 (n := (i : Int) + 1) yg yg]
  refine Ev.pos yg (Ev.pos yg (Ev.pos yg (Ev.bind (has_r b hb a[i] (ha.2 _ (List.getElem_mem h1))) ?_)))
  show Ev _ ((hasS b a[i] && hasS a b[i]) && _)
  cases hasS b a[i] with
  | false => exact Ev.neg yt (Ev.now _)
  | true =>
   refine Ev.pos rfl (Ev.pos yg (Ev.bind (has_r a ha b[i] (hb.2 _ (List.getElem_mem h2))) ?_))
   cases hasS a b[i] with
   | false => exact Ev.neg yt (Ev.now _)
   | true => exact Ev.pos rfl (by simpa using ih)
theorem same_r (a b : List S40) (ha : Fine a) (hb : Fine b) : Ev (fun k => q8.f k a b) (sameS a b) := by
 unfold q8.f sameS
 by_cases h : a.length = b.length
 ·rw [decide_eq_true h]
  exact Ev.pos yg (same_r0 a b ha hb h a.length 0 yg)
 ·rw [decide_eq_false h]
  exact Ev.neg yg (Ev.now _)
theorem within_r0 (n b : List (List S40)) (hn : FineN n) (hb : FineN b) (hab : b.length ≤ n.length) : ∀ (d i : Nat), i + d = b.length → Ev (fun k => qv.l0 k (b.length : Int) i n b) (((n.zip b).drop i).all fun p => sameS p.1 p.2)
 | 0, i, h => by
  refine Ev.step (fun k => by rw [qv.l0]) ?_
  rw [List.drop_eq_nil_of_le (by rw [List.length_zip]; omega)]
  exact Ev.neg yg (Ev.now _)
 | d + 1, i, h => by
  have hb1 := hb.1
  have h1 : i < n.length := by omega
  have h2 : i < b.length := by omega
  have ih := within_r0 n b hn hb hab d (i + 1) yg
  refine Ev.step (fun k => by rw [qv.l0]) ?_
  rw [zip_drop i h1 h2, List.all_cons, atL5 h1, atL5 h2, w64 (n := (i : Int) + 1) yg yg]
  refine Ev.pos yg (Ev.pos yg (Ev.pos yg (Ev.pos yg (Ev.bind (same_r n[i] b[i] (hn.2 _ (List.getElem_mem h1)) (hb.2 _ (List.getElem_mem h2))) ?_))))
  show Ev _ (sameS n[i] b[i] && _)
  cases sameS n[i] b[i] with
  | false => exact Ev.neg yt (Ev.now _)
  | true => exact Ev.pos rfl (by simpa using ih)
theorem Within_r (n b : List (List S40)) (hn : FineN n) (hb : FineN b) : Ev (fun k => qv.f k n b) (withinS n b) := by
 unfold qv.f withinS
 by_cases h : b.length ≤ n.length
 ·rw [decide_eq_true h]
  exact Ev.neg yg (within_r0 n b hn hb h b.length 0 yg)
 ·rw [decide_eq_false h]
  exact Ev.pos yg (Ev.now _)
theorem MatchN_r (a b : List (List S40)) (ha : FineN a) (hb : FineN b) : Ev (fun k => xu.f k a b) (matchS a b) := by
 unfold xu.f matchS
 by_cases h : a.length = b.length
 ·rw [decide_eq_true h]
  exact Ev.pos yg (Ev.bind (f := fun _ t => some _) (Within_r a b ha hb) (Ev.now _))
 ·rw [decide_eq_false h]
  exact Ev.neg yg (Ev.now _)
end Go.Proofs.YthdoohfdminfgaaGreatDoor.Pl
end
section
namespace Go.Proofs.YthdoohfdminfgaaGreatDoor.C
open Go.RowKit Go.Proofs.YthdoohfdminfgaaGreatDoorW.PrintWords Go.Proofs.YthdoohfdminfgaaGreatDoorW.PrintLast Go.Proofs.YthdoohfdminfgaaGreatDoorW.PrintMore
attribute [local go_sem] xa z7 xq xr zx zy xc z8
set_option linter.unusedVariables false
set_option linter.unusedSimpArgs false
def DK (w0 W : World) (g : Nat) : Prop := ∃ (L : List Int) (At : Int), zw w0 W g L At ∧ 0 ≤ At ∧ At ≤ L.length ∧ L.length ≤ 140737488351232
theorem DK.below {w0 W W1 : World} {g : Nat} (h : DK w0 W g) (hb : Below W.heap.size W W1) : DK w0 W1 g := let ⟨L, At, hi, h⟩ := h; ⟨L, At, zw.below hi hb, h⟩
theorem DK.ge {w0 W : World} {g : Nat} (h : DK w0 W g) : w0.heap.size ≤ g := let ⟨L, At, hi, h⟩ := h; zw.ge hi
theorem DK.lt {w0 W : World} {g : Nat} (h : DK w0 W g) : g < W.heap.size := let ⟨L, At, hi, h⟩ := h; zw.lt hi
theorem DK.blk {w0 W : World} {g : Nat} (h : DK w0 W g) : ∃ cs, W.heap[g]? = some (.cells cs 54 (0, 0)) := let ⟨L, At, ⟨A0, c0, hb, _⟩, h⟩ := h; ⟨_, hb⟩
theorem DK.grown {w0 W W1 : World} {g : Nat} {row : Option Nat} (h : DK w0 W g) (hw : W.grownBy W1 row) (hne : some g ≠ row) : DK w0 W1 g := let ⟨L, At, hi, h⟩ := h; ⟨L, At, zw.grown hi hw hne, h⟩
theorem DK.far {w0 W : World} {g : Nat} (h : DK w0 W g) {p : Addr} (hne : g ≠ p.block) (u : Value) : DK w0 (W.setCell p u) g := let ⟨L, At, hi, h⟩ := h; ⟨L, At, zw.far hi hne u, h⟩
theorem tmod_in (x a : Int) (h : 0 < a) (h1 : a ≤ 1000) : ∃ r, Int.tmod (wrap64 (Int.tmod x a + a)) a = r ∧ 0 ≤ r ∧ r < a := by
 have h2 := Int.tmod_lt_of_pos x h
 have h3 : -a < Int.tmod x a := by
  have h4 := Int.neg_tmod x a
  have h5 := Int.tmod_lt_of_pos (-x) h
  rw [h4] at h5
  omega
 have h6 : wrap64 (Int.tmod x a + a) = Int.tmod x a + a := by unfold wrap64; omega
 exact ⟨_, rfl, by rw [h6]; exact Int.tmod_nonneg _ yg, Int.tmod_lt_of_pos _ h⟩
theorem next_f (L : List Int) (At a : Int) (h : 0 ≤ At) (h1 : At ≤ L.length) (hL : L.length ≤ 140737488351232) (ha : 0 < a) (ha1 : a ≤ 1000) :
  ∃ r At', xy.f L At a = some (r, At') ∧ 0 ≤ r ∧ r < a ∧ 0 ≤ At' ∧ At' ≤ L.length := by
 unfold xy.f
 by_cases c : At ≥ (L.length : Int)
 ·exact ⟨0, At, if_pos c, by omega, ha, h, h1⟩
 ·have e1 : wrap64 (At + 1) = At + 1 := by unfold wrap64; omega
  have e2 : wrap64 (wrap64 (At + 1) - 1) = At := by rw [e1]; unfold wrap64; omega
  rw [if_neg c, e2, e1, if_pos h, if_pos yg, if_neg yg]
  obtain ⟨r, hr, h2, h3⟩ := tmod_in (rd L At) a ha ha1
  exact ⟨r, At + 1, by rw [hr], h2, h3, by omega, by omega⟩
theorem next_weak (g : Nat) (a : Int) (ha : 0 < a) (ha1 : a ≤ 1000) (w0 w : World) (hI : DK w0 w g) (hB : Below w0.heap.size w0 w) :
  Calls Tryz.prog 18 #[.pointer (some ⟨g, 0, none⟩), .int .i64 a] w fun e w' => ∃ r, e = .returned (.int .i64 r) ∧ 0 ≤ r ∧ r < a ∧ DK w0 w' g ∧ Below w0.heap.size w0 w' ∧ KeepBut w w' g none := by
 obtain ⟨L, At, hi, h, h1, hL⟩ := hI
 obtain ⟨r, At', hf, h2, h3, h4, h5⟩ := next_f L At a h h1 hL ha ha1
 refine (xy.calls g L At a r At' w0 w hi hB hf).mono ?_
 rintro e w' ⟨rfl, hi', hb, hk⟩
 exact ⟨r, rfl, h2, h3, ⟨L, At', hi', h4, h5, hL⟩, hb, hk⟩
def made12 : List S40 := ([(⟨(⟨#[50, 46, 53, 46, 52, 46, 51]⟩ : ByteArray), 12, (⟨#[65, 110, 110]⟩ : ByteArray)⟩ : S40), (⟨(⟨#[50, 46, 53, 46, 52, 46, 51]⟩ : ByteArray), 19, (⟨#[32, 97, 110, 110]⟩ : ByteArray)⟩ : S40), (⟨(⟨#[50, 46, 53, 46, 52, 46, 51]⟩ : ByteArray), 12, (⟨#[103, 114, 195, 182, 195, 159, 101]⟩ : ByteArray)⟩ : S40), (⟨(⟨#[50, 46, 53, 46, 52, 46, 54]⟩ : ByteArray), 19, (⟨#[85, 83]⟩ : ByteArray)⟩ : S40), (⟨(⟨#[50, 46, 53, 46, 52, 46, 49, 48]⟩ : ByteArray), 19, (⟨#[69, 120, 97, 109, 112, 108, 101, 32, 32, 67, 111, 114, 112]⟩ : ByteArray)⟩ : S40), (⟨(⟨#[50, 46, 53, 46, 52, 46, 49, 48]⟩ : ByteArray), 12, (⟨#[101, 120, 97, 109, 112, 108, 101, 32, 99, 111, 114, 112]⟩ : ByteArray)⟩ : S40), (⟨(⟨#[50, 46, 53, 46, 52, 46, 49, 49]⟩ : ByteArray), 22, (⟨#[97, 44, 98, 43, 99, 61, 100, 92, 101]⟩ : ByteArray)⟩ : S40), (⟨(⟨#[48, 46, 57, 46, 50, 51, 52, 50, 46, 49, 57, 50, 48, 48, 51, 48, 48, 46, 49, 48, 48, 46, 49, 46, 50, 53]⟩ : ByteArray), 22, (⟨#[111, 114, 103]⟩ : ByteArray)⟩ : S40), (⟨(⟨#[49, 46, 50, 46, 56, 52, 48, 46, 49, 49, 51, 53, 52, 57, 46, 49, 46, 57, 46, 49]⟩ : ByteArray), 22, (⟨#[97, 110, 110, 64, 101, 120, 97, 109, 112, 108, 101, 46, 111, 114, 103]⟩ : ByteArray)⟩ : S40), (⟨(⟨#[49, 46, 50, 46, 56, 52, 48, 46, 49, 49, 51, 53, 52, 57, 46, 49, 46, 57, 46, 49]⟩ : ByteArray), 22, (⟨#[110, 111, 32, 97, 100, 100, 114, 101, 115, 115]⟩ : ByteArray)⟩ : S40), (⟨(⟨#[50, 46, 53, 46, 52, 46, 57, 57]⟩ : ByteArray), 19, (⟨#[120]⟩ : ByteArray)⟩ : S40), (⟨(⟨#[50, 46, 53, 46, 52, 46, 55]⟩ : ByteArray), 12, (⟨#[76]⟩ : ByteArray)⟩ : S40)] : List (S40))
theorem attr_weak (g : Nat) (w0 w : World) (hI : DK w0 w g) (hB : Below w0.heap.size w0 w) :
  Calls Tryz.prog 34 #[.pointer (some ⟨g, 0, none⟩)] w fun e w' => ∃ a, a ∈ made12 ∧ e = .returned (.agg #[.string a.f0, .int .i64 a.f1, .string a.f2]) ∧ DK w0 w' g ∧ Below w0.heap.size w0 w' ∧ KeepBut w w' g none := by
 obtain ⟨L, At, hi, h, h1, hL⟩ := hI
 obtain ⟨r, At', hf, h2, h3, h4, h5⟩ := next_f L At 12 h h1 hL yg yg
 have hm : made12.length = 12 := by kernel_rfl
 have hr : qn made12 r ∈ made12 := by
  unfold qn
  rw [List.getD_eq_getElem?_getD, List.getElem?_eq_getElem yg]
  exact List.getElem_mem yg
 refine (certpathmade_attribute.calls g L At (qn made12 r).f0 (qn made12 r).f1 (qn made12 r).f2 At' w0 w hi hB ?_).mono ?_
 ·show Option.bind (some made12) _ = _
  rw [Option.bind_some, hf, Option.bind_some, if_pos h2, if_pos (by show r < ((made12.length : Nat) : Int); rw [hm]; omega)]
 ·rintro e w' ⟨rfl, hi', hb, hk⟩
  exact ⟨_, hr, rfl, ⟨L, At', hi', h4, h5, hL⟩, hb, hk⟩
def RI (r : List S40) (y : Int) : Prop := (r = [] ∧ 1 ≤ y ∧ y ≤ 2) ∨ (∃ a, a ∈ made12 ∧ r = [a] ∧ 0 ≤ y ∧ y ≤ 1) ∨ (∃ a b, a ∈ made12 ∧ b ∈ made12 ∧ a.f0.toList ≠ b.f0.toList ∧ r = [a, b] ∧ y = 0)
def RelMade (r : List S40) : Prop := (∃ a, a ∈ made12 ∧ r = [a]) ∨ (∃ a b, a ∈ made12 ∧ b ∈ made12 ∧ a.f0.toList ≠ b.f0.toList ∧ r = [a, b])
theorem RI.done {r : List S40} {y : Int} (h : RI r y) (hy : ¬ y > 0) : RelMade r := by
 rcases h with ⟨rfl, h, _⟩ | ⟨a, ha, rfl, _⟩ | ⟨a, b, ha, hb, hn, rfl, _⟩
 ·omega
 ·exact .inl ⟨a, ha, rfl⟩
 ·exact .inr ⟨a, b, ha, hb, hn, rfl⟩
structure NSt (w0 w : World) (g g2 g3 : Nat) (W : World) (ok : Nat → Prop) (un : Value) (ns : List (List S40)) : Prop where
 di : DK w0 W g
 b : Below w0.heap.size w0 W
 k : KeepBut w W g none
 b2 : W.heap[g2]? = some (.cells #[.slice none 0 0] 31 (0, 0))
 b3 : W.heap[g3]? = some (.cells #[un] 31 (0, 0))
 s : Kd.S (Kd.slice 40 k40) 42 W w.heap.size ok un ns
 h2 : w.heap.size ≤ g2
 h3 : w.heap.size ≤ g3
 hg : g < w.heap.size
 hw : w0.heap.size ≤ w.heap.size
section
variable {w0 w : World} {g g2 g3 : Nat} {W W' : World} {ok ok' : Nat → Prop} {un : Value} {ns : List (List S40)}
theorem NSt.below (h : NSt w0 w g g2 g3 W ok un ns) (hb : Below W.heap.size W W') : NSt w0 w g g2 g3 W' ok un ns :=
 ⟨h.di.below hb, qp h.b hb, KeepBut.trans h.k (KeepBut.of_below hb g none) (.inl rfl), q9 h.b2 hb, q9 h.b3 hb, Kd.kk h.s hb, h.h2, h.h3, h.hg, h.hw⟩
theorem NSt.mono (h : NSt w0 w g g2 g3 W ok un ns) (hok : ∀ k, w.heap.size ≤ k → k < W.heap.size → ok k → ok' k) : NSt w0 w g g2 g3 W ok' un ns :=
 ⟨h.di, h.b, h.k, h.b2, h.b3, Kd.ku (Kd.S_bound h.s) (fun k hk => hok k hk.2.1 hk.2.2.1 hk.1), h.h2, h.h3, h.hg, h.hw⟩
theorem NSt.call (h : NSt w0 w g g2 g3 W ok un ns) (hd : DK w0 W' g) (hb : Below w0.heap.size w0 W') (hk : KeepBut W W' g none) : NSt w0 w g g2 g3 W' ok un ns := by
 obtain ⟨L, At, hi, _⟩ := h.di
 refine ⟨hd, hb, KeepBut.trans h.k hk (.inl rfl), KeepBut.blk hk h.b2 (by have := h.h2; have := h.hg; omega) yt, KeepBut.blk hk h.b3 (by have := h.h3; have := h.hg; omega) yt, ?_, h.h2, h.h3, h.hg, h.hw⟩
 exact Kd.ku (Kd.S_keep (zw.apartS hi h.s (by decide)) hk (fun _ hk => hk.2)) (fun _ hk => hk.1)
theorem keep_grown {row : Option Nat} (h : KeepBut w W g none) (hg : W.grownBy W' row) (hr : ∀ k, row = some k → w.heap.size ≤ k) : KeepBut w W' g none :=
 KeepBut.trans h (KeepBut.of_grown hg g) (by
  cases row with
  | none => exact .inl rfl
  | some k => exact .inr ⟨k, rfl, hr k rfl⟩)
theorem NSt.grown {row : Option Nat} (h : NSt w0 w g g2 g3 W ok un ns) (hg : W.grownBy W' row) (hb : Below w.heap.size W W') (hr : ∀ k, row = some k → w.heap.size ≤ k) (h2 : some g2 ≠ row) (h3 : some g3 ≠ row) (hok : ∀ k, ok k → some k ≠ row) :
  NSt w0 w g g2 g3 W' ok un ns :=
 ⟨h.di.grown hg (fun e => by have := hr g e.symm; have := h.hg; omega), h.b.trans (hb.mono h.hw), keep_grown h.k hg hr, kw h.b2 hg h2, kw h.b3 hg h3, Kd.S_grown h.s hg hok, h.h2, h.h3, h.hg, h.hw⟩
theorem NSt.push (h : NSt w0 w g g2 g3 W ok un ns) {v1 : Value} {ns' : List (List S40)} (hg : W.grownBy W' un.ownBlock) (hb : Below w.heap.size W W') (hs : Kd.S (Kd.slice 40 k40) 42 W' w.heap.size ok' v1 ns') (h23 : g2 ≠ g3) :
  NSt w0 w g g2 g3 (W'.setCell ⟨g3, 0, none⟩ v1) ok' v1 ns' := by
 have hr := Kd.S_base h.s
 have b3 := kw h.b3 hg (Kd.S_ne h.s h.b3 (by decide))
 refine ⟨(h.di.grown hg (fun e => by have := hr g e.symm; have := h.hg; omega)).far (by show g ≠ g3; have := h.hg; have := h.h3; omega) _, ?_, keep_far (keep_grown h.k hg hr) h.h3 _, ?_, zu b3 0 v1 rfl, Kd.S_set hs b3 (by decide) 0 v1, h.h2, h.h3, h.hg, h.hw⟩
 ·exact qe (h.b.trans (hb.mono h.hw)) (Nat.le_trans h.hw h.h3)
 ·exact xt (kw h.b2 hg (Kd.S_ne h.s h.b2 (by decide))) h23 _
end
theorem ne_new {v v1 : Value} {n k : Nat} (ho : v1.ownBlock = v.ownBlock ∨ ∃ b, v1.ownBlock = some b ∧ n ≤ b) (h : some k ≠ v.ownBlock ∧ k < n) : some k ≠ v1.ownBlock := by
 rcases ho with e | ⟨b, e, hb⟩
 ·rw [e]; exact h.1
 ·rw [e]
  intro e2
  injection e2 with e2
  have := h.2
  omega
theorem row_call {w0 W W' : World} {g base : Nat} {u : Value} {r : List S40} (hd : DK w0 W g) (h : Kd.R k40 40 W base (fun _ => True) u r) (hk : KeepBut W W' g none) : Kd.R k40 40 W' base (fun _ => True) u r := by
 obtain ⟨L, At, hi, _⟩ := hd
 exact Kd.kn (Kd.R_keep (zw.apart hi h (by decide)) hk (fun _ hk => hk.2)) (fun _ hk => hk.1)
set_option maxHeartbeats 8000000 in
set_option maxRecDepth 100000 in
theorem name_weak (g : Nat) (w0 w : World) (hI : DK w0 w g) (hB : Below w0.heap.size w0 w) :
  Calls Tryz.prog 11 #[.pointer (some ⟨g, 0, none⟩)] w fun e w' => ∃ (v : Value) (n : List (List S40)), e = .returned (.agg #[v]) ∧ n.length ≤ 3 ∧ (∀ r ∈ n, RelMade r) ∧
   Kd.S (Kd.slice 40 k40) 42 w' w.heap.size (fun k => k ≠ g) v n ∧ DK w0 w' g ∧ Below w0.heap.size w0 w' ∧ KeepBut w w' g none := by
 have hu24 := Tryz.underlying31
 have hu26 := Tryz.underlying40
 have hg := qa.mk hI.lt
 have hw := qa.mk hB.size
 have HI := qa.mk hI
 have HB := qa.mk hB
 clear hI hB
 go_enter Tryz.func11, Tryz.ntmps11
 go_upto_region 2 with (fail)
 obtain ⟨W1, hW1⟩ : ∃ W, W = ((w.alloc (Obj.cells #[Value.slice none 0 0] 31)).alloc (Obj.cells #[Value.slice none 0 0] 31)) := ⟨_, rfl⟩
 rw [← hW1]
 have hb1 : Below w.heap.size w W1 := by rw [hW1]; exact qc (qc (Below.refl _ _) _) _
 have hb2 : W1.heap[w.heap.size]? = some (.cells #[.slice none 0 0] 31 (0, 0)) := by rw [hW1]; exact qf (heap_alloc_new w _) _
 have hb3 : W1.heap[w.heap.size + 1]? = some (.cells #[.slice none 0 0] 31 (0, 0)) := by rw [hW1]; simpa using heap_alloc_new (w.alloc (Obj.cells #[Value.slice none 0 0] 31)) (Obj.cells #[Value.slice none 0 0] 31)
 have ST : qa (NSt w0 w g w.heap.size (w.heap.size + 1) W1 (fun _ => True) (.slice none 0 0) []) := ⟨HI.out.below hb1, qp HB.out hb1, KeepBut.of_below hb1 g none, hb2, hb3, Kd.S_nil _ _ _ _ _, Nat.le_refl _, Nat.le_succ _, hg.out, hw.out⟩
 clear hW1 hb1 hb2 hb3
 have G23 := qa.mk (show w.heap.size ≠ w.heap.size + 1 by omega)
 generalize w.heap.size + 1 = g3 at ST G23 ⊢
 obtain ⟨g2, hg2⟩ : ∃ x, x = w.heap.size := ⟨_, rfl⟩
 rw [← hg2] at ST G23 ⊢
 clear hg2
 go_wp2_with (go_at_call 18; refine (next_weak g 4 yg yg w0 _ ST.out.di ST.out.b).mono ?_; rintro e W2 ⟨x0, rfl, hx0, hx1, di, hb, hk⟩; replace ST := qa.mk (ST.out.call di hb hk); clear di hb hk)
 go_loopg [4] 3 (fun kq v4 w' => ∃ (x : Int) (ns : List (List S40)) (un : Value), v4 = .int .i64 x ∧ qa (0 ≤ x ∧ x ≤ kq ∧ ns.length + x ≤ 3 ∧ ∀ r ∈ ns, RelMade r) ∧ qa (NSt w0 w g g2 g3 w' (fun _ => True) un ns))
 case atStart => exact ⟨x0, [], _, rfl, ⟨hx0, by omega, by simp; omega, fun r h => by cases h⟩, ST⟩
 case round =>
  clear ST hx0 hx1
  obtain ⟨x, ns, un, rfl, hx, ST⟩ := hrel
  by_cases cx : x > 0
  ·have cxb : decide (x > 0) = true := decide_eq_true cx
   have CX := qa.mk cx
   clear cx
   obtain ⟨k1, rfl⟩ : ∃ k1, gk = k1 + 1 := ⟨gk - 1, by have := hx.out.2.1; have := CX.out; omega⟩
   go_wp2_with (go_at_call 18; refine (next_weak g 5 yg yg w0 _ ST.out.di ST.out.b).mono ?_; rintro e W3 ⟨y0, rfl, hy0, hy1, di, hb, hk⟩; replace ST := qa.mk (ST.out.call di hb hk); clear di hb hk)
   go_loopg [5, 6] 2 (fun kq v5 v6 w' => ∃ (r : List S40) (y : Int), v6 = .int .i64 y ∧ qa (RI r y ∧ y ≤ kq) ∧ qa (NSt w0 w g g2 g3 w' (fun k => some k ≠ v5.ownBlock) un ns) ∧ qa (Kd.R k40 40 w' w.heap.size (fun _ => True) v5 r))
   case atStart => exact ⟨[], _, rfl, ⟨.inl ⟨rfl, by omega, by omega⟩, by omega⟩, ⟨ST.out.mono (fun k _ _ _ => by simp [Value.ownBlock])⟩, ⟨Kd.R_nil _ _ _ _ _⟩⟩
   case round =>
    clear ST hy0 hy1
    obtain ⟨r, y, rfl, hy, ST, HR⟩ := hrel
    by_cases cy : y > 0
    ·have cyb : decide (y > 0) = true := decide_eq_true cy
     have CY := qa.mk cy
     clear cy
     obtain ⟨k2, rfl⟩ : ∃ k2, gk = k2 + 1 := ⟨gk - 1, by have := hy.out.2; have := CY.out; omega⟩
     obtain ⟨A5, c5, rfl⟩ := Kd.kj HR.out
     go_wp2_with (go_at_call 34; refine (attr_weak g w0 _ ST.out.di ST.out.b).mono ?_; rintro e W4 ⟨a, ha, rfl, di, hb, hk⟩; replace HR := qa.mk (row_call ST.out.di HR.out hk); replace ST := qa.mk (ST.out.call di hb hk); clear di hb hk)
     obtain ⟨W5, hW5⟩ : ∃ W, W = W4.alloc (Obj.cells #[Value.string a.f0, Value.int IntKind.i64 a.f1, Value.string a.f2] 40) := ⟨_, rfl⟩
     rw [← hW5]
     have hb5 : Below W4.heap.size W4 W5 := by rw [hW5]; exact qc (Below.refl _ _) _
     have BA := qa.mk (show W5.heap[W4.heap.size]? = some (.cells #[.string a.f0, .int .i64 a.f1, .string a.f2] 40 (0, 0)) by rw [hW5]; exact heap_alloc_new _ _)
     have GA := qa.mk (show w.heap.size ≤ W4.heap.size from ST.out.k.1)
     replace ST := qa.mk (ST.out.below hb5)
     replace HR := qa.mk (Kd.kt (Kd.R_elderB HR.out W4.heap.size (Nat.le_refl _)) hb5)
     clear hW5 hb5
     generalize W4.heap.size = gA at BA GA HR ⊢
     have z0 : W5.cell? ⟨gA, 0, none⟩ = some (.string a.f0) := (ql BA.out 0).trans rfl
     have z1 : W5.cell? ⟨gA, 1, none⟩ = some (.int .i64 a.f1) := (ql BA.out 1).trans rfl
     have z2 : W5.cell? ⟨gA, 2, none⟩ = some (.string a.f2) := (ql BA.out 2).trans rfl
     rcases hy.out.1 with ⟨rfl, h1, h2⟩ | ⟨a0, ha0, rfl, h1, h2⟩ | ⟨a0, b0, _, _, _, _, h1⟩
     ·go_quiet (fail)
      replace ST := qa.mk (ST.out.below (qb (Below.refl _ _) nq))
      replace HR := qa.mk (Kd.zg HR.out nq)
      replace BA := qa.mk (qg BA.out nq)
      clear z0 z1 z2
      generalize W5.drewN nq = W6 at ST HR BA ⊢
      have z0 : W6.cell? ⟨gA, 0, none⟩ = some (.string a.f0) := (ql BA.out 0).trans rfl
      have z1 : W6.cell? ⟨gA, 1, none⟩ = some (.int .i64 a.f1) := (ql BA.out 1).trans rfl
      have z2 : W6.cell? ⟨gA, 2, none⟩ = some (.string a.f2) := (ql BA.out 2).trans rfl
      go_wp2_with ((with_reducible refine zl (N := 40) rfl ?_); refine Kd.kv k40 (w0 := W6) (W := W6) w.heap.size rfl (.tmp 37) (.tmp 39) 42 40 (.agg #[(.string ⟨#[]⟩), (.int .i64 0), (.string ⟨#[]⟩)]) 40 rfl Tryz.underlying42 info40 rfl (by decide) yg (.slice A5 ([] : List S40).length c5) [] a [.string a.f0, .int .i64 a.f1, .string a.f2] (fun k => True ∧ k ≠ gA) (fun _ => False) rfl (by first | (go_simp; done) | (go_simp; rfl)) (k9 _ _ _ a) (fun _ hk => hk.elim) (fun k hk => ⟨trivial, by have := zz BA.out; omega⟩) HR.out (Below.refl _ _) ST.out.k.1 yt ?_; intro v1 W7 ho hb hg ho'; have hS := qa.mk (((ST.out.mono (ok' := fun k => some k ≠ (Value.slice A5 ([] : List S40).length c5).ownBlock ∧ k < W6.heap.size) (fun k _ h2 h3 => ⟨h3, h2⟩)).grown hg hb (Kd.R_base HR.out) (Kd.R_ne HR.out ST.out.b2 (by decide)) (Kd.R_ne HR.out ST.out.b3 (by decide)) (fun _ h => h.1)).mono (ok' := fun k => some k ≠ v1.ownBlock) (fun k _ _ h3 => ne_new ho' h3)); clear ST; have ST := hS; clear hS; have HR7 := qa.mk (Kd.kn (ok' := fun _ => True) ho (fun _ _ => trivial)); clear HR; have HR := HR7; clear HR7 ho hb hg ho' z0 z1 z2 BA)
      go_roundg k2
      case measure => omega
      case rel => exact ⟨_, _, by first | rfl | simp, ⟨.inr (.inl ⟨a, ha, rfl, by have := h1; omega, by have := h2; omega⟩), by have := hy.out.2; omega⟩, ST, HR⟩
     ·have hc1 := (Kd.xp HR.out).2.2
      obtain ⟨ad, rfl, hx0, hx1, hx2⟩ := k5 hc1 0 yg yt
      have e0 : ad.add 0 = ad := by
       obtain ⟨b, o, s⟩ := ad
       cases s <;> simp [Addr.add]
      replace hx0 : W5.cell? (ad.add 0) = some (.string a0.f0) := hx0
      rw [e0] at hx0
      clear hx1 hx2
      by_cases ct : a0.f0.toList = a.f0.toList
      ·have ctb : (a0.f0.toList == a.f0.toList) = true := beq_iff_eq.mpr ct
       have ctc : (a0.f0.toList != a.f0.toList) = false := bne_eq_false_iff_eq.mpr ct
       clear ct
       go_quiet (fail)
       go_wp2
       go_roundg k2
       case measure => omega
       case rel => exact ⟨_, _, by first | rfl | simp, ⟨.inr (.inl ⟨a0, ha0, rfl, by have := CY.out; omega, by omega⟩), by have := hy.out.2; omega⟩, ⟨ST.out.below (qb (Below.refl _ _) nq)⟩, ⟨Kd.kn (Kd.zg HR.out nq) (fun _ _ => trivial)⟩⟩
      ·have ctb : (a0.f0.toList == a.f0.toList) = false := beq_eq_false_iff_ne.mpr ct
       have ctc : (a0.f0.toList != a.f0.toList) = true := bne_iff_ne.mpr ct
       have CT := qa.mk ct
       clear ct
       go_quiet (fail)
       clear hx0
       replace ST := qa.mk (ST.out.below (qb (Below.refl _ _) nq))
       replace HR := qa.mk (Kd.zg HR.out nq)
       replace BA := qa.mk (qg BA.out nq)
       clear z0 z1 z2
       generalize W5.drewN nq = W6 at ST HR BA ⊢
       have z0 : W6.cell? ⟨gA, 0, none⟩ = some (.string a.f0) := (ql BA.out 0).trans rfl
       have z1 : W6.cell? ⟨gA, 1, none⟩ = some (.int .i64 a.f1) := (ql BA.out 1).trans rfl
       have z2 : W6.cell? ⟨gA, 2, none⟩ = some (.string a.f2) := (ql BA.out 2).trans rfl
       go_wp2_with ((with_reducible refine zl (N := 40) rfl ?_); refine Kd.kv k40 (w0 := W6) (W := W6) w.heap.size rfl (.tmp 37) (.tmp 39) 42 40 (.agg #[(.string ⟨#[]⟩), (.int .i64 0), (.string ⟨#[]⟩)]) 40 rfl Tryz.underlying42 info40 rfl (by decide) yg (.slice (some ad) ([a0] : List S40).length c5) [a0] a [.string a.f0, .int .i64 a.f1, .string a.f2] (fun k => True ∧ k ≠ gA) (fun _ => False) rfl (by first | (go_simp; done) | (go_simp; rfl)) (k9 _ _ _ a) (fun _ hk => hk.elim) (fun k hk => ⟨trivial, by have := zz BA.out; omega⟩) HR.out (Below.refl _ _) ST.out.k.1 yt ?_; intro v1 W7 ho hb hg ho'; have hS := qa.mk (((ST.out.mono (ok' := fun k => some k ≠ (Value.slice (some ad) ([a0] : List S40).length c5).ownBlock ∧ k < W6.heap.size) (fun k _ h2 h3 => ⟨h3, h2⟩)).grown hg hb (Kd.R_base HR.out) (Kd.R_ne HR.out ST.out.b2 (by decide)) (Kd.R_ne HR.out ST.out.b3 (by decide)) (fun _ h => h.1)).mono (ok' := fun k => some k ≠ v1.ownBlock) (fun k _ _ h3 => ne_new ho' h3)); clear ST; have ST := hS; clear hS; have HR7 := qa.mk (Kd.kn (ok' := fun _ => True) ho (fun _ _ => trivial)); clear HR; have HR := HR7; clear HR7 ho hb hg ho' z0 z1 z2 BA)
       go_roundg k2
       case measure => omega
       case rel => exact ⟨_, _, by first | rfl | simp, ⟨.inr (.inr ⟨a0, a, ha0, ha, CT.out, rfl, by have := CY.out; omega⟩), by have := hy.out.2; omega⟩, ST, HR⟩
     ·exact absurd h1 (by have := CY.out; omega)
    ·have cyb : decide (y > 0) = false := decide_eq_false cy
     have hdone := qa.mk (RI.done hy.out.1 cy)
     clear cy
     obtain ⟨A5, c5, rfl⟩ := Kd.kj HR.out
     obtain ⟨An, cn, rfl⟩ := Kd.k8 ST.out.s
     have hcz : wr.cell? ⟨g3, 0, none⟩ = some (.slice An ns.length cn) := (ql ST.out.b3 0).trans rfl
     have hfz := qo ST.out.b3 0
     have LM := qa.mk (show (ns.length + 1) * 24 ≤ 140737488355328 by have := hx.out.2.2.1; have := CX.out; omega)
     go_wp2_with ((with_reducible refine zl (N := 45) rfl ?_); refine Kd.S_append (Kd.slice 40 k40) (w0 := wr) (W := wr) w.heap.size rfl (.tmp 42) (.tmp 44) 29 42 (.slice none 0 0) 24 rfl Tryz.underlying29 info42 rfl (by decide) yg (.slice An ns.length cn) ns r [.slice A5 r.length c5] (fun _ => True) (fun k_ => some k_ = (.slice A5 r.length c5 : Value).ownBlock) rfl rfl (Kd.M_row (Kd.kn (Kd.R_tight rfl HR.out) (fun _ h => h))) (fun k_ hk_ => (Kd.kn (ok' := fun k_ => True ∧ some k_ ≠ (Value.slice An ns.length cn).ownBlock) (Kd.R_apart' HR.out (Kd.S_typed ST.out.s) (by decide)) (fun k hk => ⟨trivial, hk.2⟩)).1 k_ hk_.symm) (fun _ _ => trivial) (Kd.ku ST.out.s (fun k_ hk => ⟨trivial, hk⟩)) (Below.refl _ _) ST.out.k.1 LM.out ?_; intro v1 W7 ho hb hg ho'; obtain ⟨ns1, hns1⟩ : ∃ x, x = ns ++ [r] := ⟨_, rfl⟩; rw [← hns1] at ho; obtain ⟨A1, c1, rfl⟩ := Kd.k8 ho; have NS1 := qa.mk hns1; clear hns1; have hcz7 : W7.cell? ⟨g3, 0, none⟩ = some (.slice An ns.length cn) := (ql (kw ST.out.b3 hg (Kd.S_ne ST.out.s ST.out.b3 (by decide))) 0).trans rfl; have hfz7 := qo (kw ST.out.b3 hg (Kd.S_ne ST.out.s ST.out.b3 (by decide))) 0; have hS := qa.mk (ST.out.push hg hb ho G23.out); clear ST hcz hfz ho hb hg ho'; have ST := hS; clear hS)
     go_roundg k1
     case measure => omega
     case rel =>
      have e1 : wrap64 (x - 1) = x - 1 := by have h1 := hx.out.1; have h2 := hx.out.2.1; have h3 := hx.out.2.2.1; unfold wrap64; omega
      refine ⟨x - 1, ns1, _, by first | rfl | rw [e1], ⟨by have := CX.out; omega, by have := hx.out.2.1; omega, by rw [NS1.out, List.length_append]; have := hx.out.2.2.1; simp; omega, fun q hq => ?_⟩, ST⟩
      rw [NS1.out] at hq
      rcases List.mem_append.1 hq with hq | hq
      ·exact hx.out.2.2.2 q hq
      ·obtain rfl := List.mem_singleton.1 hq
       exact hdone.out
  ·have cxb : decide (x > 0) = false := decide_eq_false cx
   have CX := qa.mk cx
   clear cx
   obtain ⟨An, cn, rfl⟩ := Kd.k8 ST.out.s
   have hcz : wr.cell? ⟨g3, 0, none⟩ = some (.slice An ns.length cn) := (ql ST.out.b3 0).trans rfl
   have hcz2 : wr.cell? ⟨g2, 0, none⟩ = some (.slice none 0 0) := (ql ST.out.b2 0).trans rfl
   have hfz2 := qo ST.out.b2 0
   go_wp2
   refine bodyPost_ret (results_cell_row rfl _ _ g2 31 #[.slice An ns.length cn] (0, 0) _ rfl (zu ST.out.b2 0 _ rfl) Tryz.underlying31 rfl yj) rfl ?_
   have hgw := hg.out
   have h2 := ST.out.h2
   refine ⟨_, rfl, ns, by have := hx.out.2.2.1; have := hx.out.1; omega, hx.out.2.2.2, ?_, ST.out.di.far (by show g ≠ g2; omega) _, qe ST.out.b (Nat.le_trans hw.out h2), keep_far ST.out.k h2 _⟩
   exact Kd.ku (Kd.S_bound (Kd.S_set ST.out.s ST.out.b2 (by decide) 0 _)) (fun k hk => by have := hk.2.1; omega)
end Go.Proofs.YthdoohfdminfgaaGreatDoor.C
end
section
namespace Go.Proofs.YthdoohfdminfgaaGreatDoor.C
open Go.RowKit Go.Proofs.YthdoohfdminfgaaGreatDoorW.PrintWords Go.Proofs.YthdoohfdminfgaaGreatDoorW.PrintLast Go.Proofs.YthdoohfdminfgaaGreatDoorW.PrintMore
attribute [local go_sem] xa z7 xq xr zx zy xc z8
set_option linter.unusedVariables false
set_option linter.unusedSimpArgs false
def SpA (x y : S40) : Prop := y.f0 = x.f0 ∧ y.f1 = 12 ∧ (y.f2 = x.f2 ∨ y.f2 = (⟨#[32]⟩ : ByteArray) ++ x.f2 ∨ xl.f x.f2 = some y.f2)
def SpR (r l : List S40) : Prop := l.length = r.length ∧ (∀ x ∈ r, ∃ y ∈ l, SpA x y) ∧ (∀ y ∈ l, ∃ x ∈ r, SpA x y)
def SpN (n m : List (List S40)) (i : Nat) : Prop := m.length = i ∧ ∀ j r l, j < i → n[j]? = some r → m[j]? = some l → SpR r l
theorem SpR.nil : SpR [] [] := ⟨rfl, by simp, by simp⟩
theorem SpR.snoc {r l : List S40} {x y : S40} (h : SpR r l) (hx : SpA x y) : SpR (r ++ [x]) ([y] ++ l) := by
 refine ⟨by simp [h.1], fun z hz => ?_, fun z hz => ?_⟩
 ·rcases List.mem_append.1 hz with hz | hz
  ·obtain ⟨q, hq, hs⟩ := h.2.1 z hz
   exact ⟨q, by simp [hq], hs⟩
  ·obtain rfl := List.mem_singleton.1 hz
   exact ⟨y, by simp, hx⟩
 ·rcases List.mem_append.1 hz with hz | hz
  ·obtain rfl := List.mem_singleton.1 hz
   exact ⟨x, by simp, hx⟩
  ·obtain ⟨q, hq, hs⟩ := h.2.2 z hz
   exact ⟨q, by simp [hq], hs⟩
theorem SpN.snoc {n m : List (List S40)} {i : Nat} {l : List S40} (h : SpN n m i) (hl : ∀ r, n[i]? = some r → SpR r l) : SpN n (m ++ [l]) (i + 1) := by
 refine ⟨by simp [h.1], fun j r q hj hr hq => ?_⟩
 by_cases e : j = i
 ·subst e
  rw [List.getElem?_append_right (by rw [h.1]; exact Nat.le_refl _), h.1, Nat.sub_self] at hq
  obtain rfl : l = q := by simpa using hq
  exact hl r hr
 ·rw [List.getElem?_append_left (by rw [h.1]; omega)] at hq
  exact h.2 j r q yg hr hq
theorem add_block (ad : Addr) (i : Nat) : (ad.add i).block = ad.block := by
 obtain ⟨b, o, s⟩ := ad
 unfold Addr.add
 split <;> rfl
theorem keep_cell {w W : World} {g : Nat} (h : KeepBut w W g none) {p : Addr} (hp : p.block ≠ g) (hl : p.block < w.heap.size) : W.cell? p = w.cell? p := World.cell?_of_block (w := w) (h.2 p.block hl hp yt)
theorem row_of {w : World} {g : Nat} {An : Option Addr} {n : List (List S40)} (hn : ∀ W', KeepBut w W' g none → Kd.C (Kd.slice 40 k40) W' An n.length n) (hA : ∀ ad, An = some ad → 0 < n.length → ad.block ≠ g ∧ ad.block < w.heap.size) (i : Nat) (hi : i < n.length) :
  ∃ ad Ar cr, An = some ad ∧ (xx n i).length ≤ cr ∧ ∀ W', KeepBut w W' g none → W'.cell? (ad.add i) = some (.slice Ar (xx n i).length cr) ∧ Kd.C k40 W' Ar (xx n i).length (xx n i) := by
 obtain ⟨ad, Ar, cr, e, hx, hc, _⟩ := at_L5 (hn w (KeepBut.refl _ _ _)) (i : Int) yg yg
 rw [Int.toNat_natCast] at hx
 refine ⟨ad, Ar, cr, e, hc, fun W' hk => ?_⟩
 obtain ⟨ad', A', c', e', hx', _, hC'⟩ := at_L5 (hn W' hk) (i : Int) yg yg
 obtain rfl : ad = ad' := by rw [e] at e'; injection e'
 rw [Int.toNat_natCast] at hx'
 have h1 := hA ad e yg
 have hq : W'.cell? (ad.add i) = w.cell? (ad.add i) := keep_cell hk (by rw [add_block]; exact h1.1) (by rw [add_block]; exact h1.2)
 rw [hq] at hx' ⊢
 refine ⟨hx, ?_⟩
 rw [hx] at hx'
 injection hx' with hx'
 injection hx' with h2
 rw [h2]
 exact hC'
theorem NSt.set {w0 w : World} {g g2 g3 : Nat} {W : World} {ok : Nat → Prop} {un : Value} {ns : List (List S40)} (h : NSt w0 w g g2 g3 W ok un ns) {q : Nat} (hq : w.heap.size ≤ q) (h2 : g2 ≠ q) (h3 : g3 ≠ q) (hok : ∀ k, ok k → k ≠ q) (j : Nat) (v : Value) :
  NSt w0 w g g2 g3 (W.setCell ⟨q, j, none⟩ v) ok un ns :=
 ⟨h.di.far (by show g ≠ q; have := h.hg; omega) _, qe h.b (Nat.le_trans h.hw hq), keep_far h.k hq _, xt h.b2 h2 _, xt h.b3 h3 _, Kd.S_far h.s hok _, h.h2, h.h3, h.hg, h.hw⟩
def Short (n : List (List S40)) : Prop := n.length ≤ 1000 ∧ ∀ r ∈ n, r.length ≤ 1000 ∧ ∀ a ∈ r, a.f2.size ≤ 1000000
set_option maxHeartbeats 8000000 in
set_option maxRecDepth 100000 in
theorem spelled_weak (g : Nat) (w0 w : World) (An : Option Addr) (cn : Nat) (n : List (List S40)) (hI : DK w0 w g) (hB : Below w0.heap.size w0 w)
  (hn : ∀ W', KeepBut w W' g none → Kd.C (Kd.slice 40 k40) W' An n.length n) (hA : ∀ ad, An = some ad → 0 < n.length → ad.block ≠ g ∧ ad.block < w.heap.size) (hc : n.length ≤ cn) (hs : Short n) :
  Calls Tryz.prog 27 #[.pointer (some ⟨g, 0, none⟩), .agg #[.slice An n.length cn]] w fun e w' => ∃ (v : Value) (m : List (List S40)), e = .returned (.agg #[v]) ∧ SpN n m n.length ∧
   Kd.S (Kd.slice 40 k40) 42 w' w.heap.size (fun k => k ≠ g) v m ∧ DK w0 w' g ∧ Below w0.heap.size w0 w' ∧ KeepBut w w' g none := by
 have hu24 := Tryz.underlying31
 have hu26 := Tryz.underlying40
 have hg := qa.mk hI.lt
 have hw := qa.mk hB.size
 have HI := qa.mk hI
 have HB := qa.mk hB
 have HN := qa.mk hn
 have HC := qa.mk hc
 have HS := qa.mk hs
 have HA := qa.mk hA
 clear hI hB hn hA hc hs
 go_enter Tryz.func27, Tryz.ntmps27
 go_upto_region 2 with (fail)
 obtain ⟨W1, hW1⟩ : ∃ W, W = (((w.alloc (Obj.cells #[Value.slice An n.length cn] 31)).alloc (Obj.cells #[Value.slice none 0 0] 31)).alloc (Obj.cells #[Value.slice none 0 0] 31)) := ⟨_, rfl⟩
 rw [← hW1]
 have hb1 : Below w.heap.size w W1 := by rw [hW1]; exact qc (qc (qc (Below.refl _ _) _) _) _
 have BKN := qa.mk (show W1.heap[w.heap.size]? = some (.cells #[.slice An n.length cn] 31 (0, 0)) by rw [hW1]; exact qf (qf (heap_alloc_new w _) _) _)
 have hb2 : W1.heap[w.heap.size + 1]? = some (.cells #[.slice none 0 0] 31 (0, 0)) := by rw [hW1]; exact qf (by simpa using heap_alloc_new (w.alloc (Obj.cells #[Value.slice An n.length cn] 31)) (Obj.cells #[Value.slice none 0 0] 31)) _
 have hb3 : W1.heap[w.heap.size + 1 + 1]? = some (.cells #[.slice none 0 0] 31 (0, 0)) := by rw [hW1]; simpa using heap_alloc_new ((w.alloc (Obj.cells #[Value.slice An n.length cn] 31)).alloc (Obj.cells #[Value.slice none 0 0] 31)) (Obj.cells #[Value.slice none 0 0] 31)
 have ST : qa (NSt w0 w g (w.heap.size + 1) (w.heap.size + 1 + 1) W1 (fun _ => True) (.slice none 0 0) []) := ⟨HI.out.below hb1, qp HB.out hb1, KeepBut.of_below hb1 g none, hb2, hb3, Kd.S_nil _ _ _ _ _, Nat.le_succ _, by omega, hg.out, hw.out⟩
 clear hW1 hb1 hb2 hb3
 have G23 := qa.mk (show w.heap.size + 1 ≠ w.heap.size + 1 + 1 by omega)
 generalize w.heap.size + 1 + 1 = g3 at ST G23 ⊢
 generalize w.heap.size + 1 = g2 at ST G23 ⊢
 obtain ⟨gn, hgn⟩ : ∃ x, x = w.heap.size := ⟨_, rfl⟩
 rw [← hgn] at BKN ⊢
 clear hgn
 have hczn : W1.cell? ⟨gn, 0, none⟩ = some (.slice An n.length cn) := (ql BKN.out 0).trans rfl
 go_wp2
 clear hczn BKN
 go_loopg [16] n.length (fun kq v16 w' => ∃ (i : Nat) (ns : List (List S40)) (un : Value), v16 = .int .i64 i ∧ qa (i + kq = n.length) ∧ qa (SpN n ns i) ∧ qa (NSt w0 w g g2 g3 w' (fun _ => True) un ns))
 case atStart => exact ⟨0, [], _, rfl, ⟨by omega⟩, ⟨rfl, fun j r l h => by omega⟩, ST⟩
 case round =>
  clear ST
  obtain ⟨i, ns, un, rfl, hi, hsp, ST⟩ := hrel
  cases gk with
  | zero =>
   obtain rfl : i = n.length := by have := hi.out; omega
   have hlt : decide ((n.length : Int) < (n.length : Int)) = false := decide_eq_false yg
   obtain ⟨Am, cm, rfl⟩ := Kd.k8 ST.out.s
   have hcz : wr.cell? ⟨g3, 0, none⟩ = some (.slice Am ns.length cm) := (ql ST.out.b3 0).trans rfl
   have hcz2 : wr.cell? ⟨g2, 0, none⟩ = some (.slice none 0 0) := (ql ST.out.b2 0).trans rfl
   have hfz2 := qo ST.out.b2 0
   go_wp2
   refine bodyPost_ret (results_cell_row rfl _ _ g2 31 #[.slice Am ns.length cm] (0, 0) _ rfl (zu ST.out.b2 0 _ rfl) Tryz.underlying31 rfl yj) rfl ?_
   have hgw := hg.out
   have h2 := ST.out.h2
   refine ⟨_, ns, rfl, hsp.out, ?_, ST.out.di.far (by show g ≠ g2; omega) _, qe ST.out.b (Nat.le_trans hw.out h2), keep_far ST.out.k h2 _⟩
   exact Kd.ku (Kd.S_bound (Kd.S_set ST.out.s ST.out.b2 (by decide) 0 _)) (fun k hk => by have := hk.2.1; omega)
  | succ k1 =>
   have hlt0 : i < n.length := by have := hi.out; omega
   have hlt : decide ((i : Int) < (n.length : Int)) = true := decide_eq_true yg
   have p0 : (0 ≤ (i : Int)) = True := eq_true yg
   have p1 : ((i : Int) < (n.length : Int)) = True := eq_true yg
   obtain ⟨r, hr⟩ : ∃ r, r = xx n (i : Int) := ⟨_, rfl⟩
   have hri : n[i]? = some r := by rw [hr]; unfold xx; rw [Int.toNat_natCast, List.getD_eq_getElem?_getD, List.getElem?_eq_getElem hlt0]; rfl
   have hrs := qa.mk (HS.out.2 r (by obtain ⟨h1, h2⟩ := List.getElem?_eq_some_iff.1 hri; rw [← h2]; exact List.getElem_mem h1))
   have HRI := qa.mk hri
   have WI := qa.mk (show wrap64 ((i : Int) + 1) = ((i + 1 : Nat) : Int) by have := HS.out.1; unfold wrap64; omega)
   clear hri
   obtain ⟨ad, Ar, cr, hAn, hcr, hall⟩ := row_of HN.out HA.out i hlt0
   rw [← hr] at hall hcr
   have HRow := qa.mk hall
   have hczr : wr.cell? (ad.add i) = some (.slice Ar r.length cr) := (HRow.out wr ST.out.k).1
   clear hr hcr hall
   subst hAn
   go_wp2
   clear hczr hlt p0 p1
   go_loopg [8, 22] r.length (fun kq v8 v22 w' => ∃ (j : Nat) (l : List S40), v22 = .int .i64 j ∧ qa (j + kq = r.length) ∧ qa (SpR (r.take j) l) ∧ qa (NSt w0 w g g2 g3 w' (fun k => some k ≠ v8.ownBlock) un ns) ∧ qa (Kd.R k40 40 w' w.heap.size (fun _ => True) v8 l))
   case atStart => exact ⟨0, [], rfl, ⟨by omega⟩, ⟨SpR.nil⟩, ⟨ST.out.mono (fun k _ _ _ => by simp [Value.ownBlock])⟩, ⟨Kd.R_nil _ _ _ _ _⟩⟩
   case round =>
    clear ST
    obtain ⟨j, l, rfl, hj, hsl, ST, HR⟩ := hrel
    cases gk with
    | zero =>
     obtain rfl : j = r.length := by have := hj.out; omega
     have hlt : decide ((r.length : Int) < (r.length : Int)) = false := decide_eq_false yg
     obtain ⟨A5, c5, rfl⟩ := Kd.kj HR.out
     obtain ⟨Am, cm, rfl⟩ := Kd.k8 ST.out.s
     have hcz : wr.cell? ⟨g3, 0, none⟩ = some (.slice Am ns.length cm) := (ql ST.out.b3 0).trans rfl
     have hfz := qo ST.out.b3 0
     have LM := qa.mk (show (ns.length + 1) * 24 ≤ 140737488355328 by have := hsp.out.1; have := HS.out.1; omega)
     go_wp2_with ((with_reducible refine zl (N := 54) rfl ?_); refine Kd.S_append (Kd.slice 40 k40) (w0 := wr) (W := wr) w.heap.size rfl (.tmp 51) (.tmp 53) 29 42 (.slice none 0 0) 24 rfl Tryz.underlying29 info42 rfl (by decide) yg (.slice Am ns.length cm) ns l [.slice A5 l.length c5] (fun _ => True) (fun k_ => some k_ = (.slice A5 l.length c5 : Value).ownBlock) rfl rfl (Kd.M_row (Kd.kn (Kd.R_tight rfl HR.out) (fun _ h => h))) (fun k_ hk_ => (Kd.kn (ok' := fun k_ => True ∧ some k_ ≠ (Value.slice Am ns.length cm).ownBlock) (Kd.R_apart' HR.out (Kd.S_typed ST.out.s) (by decide)) (fun k hk => ⟨trivial, hk.2⟩)).1 k_ hk_.symm) (fun _ _ => trivial) (Kd.ku ST.out.s (fun k_ hk => ⟨trivial, hk⟩)) (Below.refl _ _) ST.out.k.1 LM.out ?_; intro v1 W7 ho hb hg ho'; obtain ⟨ns1, hns1⟩ : ∃ x, x = ns ++ [l] := ⟨_, rfl⟩; rw [← hns1] at ho; obtain ⟨A1, c1, rfl⟩ := Kd.k8 ho; have NS1 := qa.mk hns1; clear hns1; have hcz7 : W7.cell? ⟨g3, 0, none⟩ = some (.slice Am ns.length cm) := (ql (kw ST.out.b3 hg (Kd.S_ne ST.out.s ST.out.b3 (by decide))) 0).trans rfl; have hfz7 := qo (kw ST.out.b3 hg (Kd.S_ne ST.out.s ST.out.b3 (by decide))) 0; have hS := qa.mk (ST.out.push hg hb ho G23.out); clear ST hcz hfz ho hb hg ho'; have ST := hS; clear hS)
     go_roundg k1
     case measure => omega
     case rel => exact ⟨i + 1, ns1, _, by rw [WI.out], ⟨by have := hi.out; omega⟩, ⟨by rw [NS1.out]; exact SpN.snoc hsp.out (fun q hq => by rw [HRI.out] at hq; injection hq with hq; subst hq; have := hsl.out; rwa [List.take_length] at this)⟩, ST⟩
    | succ k2 =>
     have hjl : j < r.length := by have := hj.out; omega
     have hlt : decide ((j : Int) < (r.length : Int)) = true := decide_eq_true yg
     have p0 : (0 ≤ (j : Int)) = True := eq_true yg
     have p1 : ((j : Int) < (r.length : Int)) = True := eq_true yg
     obtain ⟨A8, c8, rfl⟩ := Kd.kj HR.out
     obtain ⟨a, haj⟩ : ∃ a, a = qn r (j : Int) := ⟨_, rfl⟩
     have hrj : r[j]? = some a := by rw [haj]; unfold qn; rw [Int.toNat_natCast, List.getD_eq_getElem?_getD, List.getElem?_eq_getElem hjl]; rfl
     obtain ⟨ad2, e2, hx0, hx1, hx2⟩ := k5 (HRow.out wr ST.out.k).2 (j : Int) yg yg
     rw [← haj, Int.toNat_natCast] at hx0 hx1 hx2
     have hsz := qa.mk (hrs.out.2 a (by obtain ⟨h1, h2⟩ := List.getElem?_eq_some_iff.1 hrj; rw [← h2]; exact List.getElem_mem h1))
     have HRJ := qa.mk hrj
     clear haj hrj
     subst e2
     have WJ := qa.mk (show wrap64 ((j : Int) + 1) = ((j + 1 : Nat) : Int) by have := hrs.out.1; unfold wrap64; omega)
     go_upto_region 9 with (fail)
     obtain ⟨W2, hW2⟩ : ∃ W, W = wr.alloc (Obj.cells #[Value.string a.f0, Value.int IntKind.i64 a.f1, Value.string a.f2] 40) := ⟨_, rfl⟩
     rw [← hW2]
     have hb2 : Below wr.heap.size wr W2 := by rw [hW2]; exact qc (Below.refl _ _) _
     have BA := qa.mk (show W2.heap[wr.heap.size]? = some (.cells #[.string a.f0, .int .i64 a.f1, .string a.f2] 40 (0, 0)) by rw [hW2]; exact heap_alloc_new _ _)
     have GA := qa.mk (show w.heap.size ≤ wr.heap.size from ST.out.k.1)
     replace ST := qa.mk (ST.out.below hb2)
     replace HR := qa.mk (Kd.kt HR.out hb2)
     clear hW2 hb2 hx0 hx1 hx2
     generalize wr.heap.size = gA at BA GA ⊢
     have z0 : W2.cell? ⟨gA, 0, none⟩ = some (.string a.f0) := (ql BA.out 0).trans rfl
     have z2 : W2.cell? ⟨gA, 2, none⟩ = some (.string a.f2) := (ql BA.out 2).trans rfl
     go_upto_region 10 with (fail)
     obtain ⟨W3, hW3⟩ : ∃ W, W = W2.alloc (Obj.cells #[Value.string a.f0, Value.int IntKind.i64 12, Value.string a.f2] 40) := ⟨_, rfl⟩
     rw [← hW3]
     have hb3 : Below W2.heap.size W2 W3 := by rw [hW3]; exact qc (Below.refl _ _) _
     have BB := qa.mk (show W3.heap[W2.heap.size]? = some (.cells #[.string a.f0, .int .i64 12, .string a.f2] 40 (0, 0)) by rw [hW3]; exact heap_alloc_new _ _)
     have GB := qa.mk (show w.heap.size ≤ W2.heap.size from ST.out.k.1)
     have G2B := qa.mk (show g2 ≠ W2.heap.size from Nat.ne_of_lt (zz ST.out.b2))
     have G3B := qa.mk (show g3 ≠ W2.heap.size from Nat.ne_of_lt (zz ST.out.b3))
     have GAB := qa.mk (show gA ≠ W2.heap.size from Nat.ne_of_lt (zz BA.out))
     replace ST := qa.mk ((ST.out.mono (ok' := fun k => some k ≠ (Value.slice A8 l.length c8).ownBlock ∧ k ≠ W2.heap.size) (fun k _ h2 h3 => ⟨h3, by omega⟩)).below hb3)
     replace HR := qa.mk (Kd.kt (Kd.R_elderB HR.out W2.heap.size (Nat.le_refl _)) hb3)
     replace BA := qa.mk (q9 BA.out hb3)
     clear hW3 hb3 z0 z2
     generalize W2.heap.size = gB at BB GB G2B G3B GAB ST HR ⊢
     go_upto_region 11 with (go_at_call 18; refine (next_weak g 3 yg yg w0 _ ST.out.di ST.out.b).mono ?_; rintro e W4 ⟨x, rfl, hx0, hx1, di, hb, hk⟩; replace HR := qa.mk (Kd.kn (Kd.R_keep (let ⟨L, At, hi, _⟩ := ST.out.di; zw.apart hi HR.out (by decide)) hk (fun _ h => h.2)) (fun _ h => h.1)); replace BA := qa.mk (KeepBut.blk hk BA.out (by have h1 := GA.out; have h2 := hg.out; omega) yt); replace BB := qa.mk (KeepBut.blk hk BB.out (by have h1 := GB.out; have h2 := hg.out; omega) yt); replace ST := qa.mk (ST.out.call di hb hk); clear di hb hk)
     have z2 : W4.cell? ⟨gA, 2, none⟩ = some (.string a.f2) := (ql BA.out 2).trans rfl
     have zb : W4.cell? ⟨gB, 2, none⟩ = some (.string a.f2) := (ql BB.out 2).trans rfl
     have zf := qo BB.out 2
     obtain hxx | hxx | hxx : x = 0 ∨ x = 1 ∨ x = 2 := by omega
     ·subst hxx
      clear hx0 hx1
      have SZ := hsz.out
      have c7b2 : (9223372036854775807 < 1 + a.f2.size) = False := eq_false yg
      clear SZ
      go_upto_region 15 with (fail)
      obtain ⟨s, hs⟩ : ∃ s, s = (⟨#[32]⟩ : ByteArray) ++ a.f2 := ⟨_, rfl⟩
      have SP := qa.mk (show SpA a ⟨a.f0, 12, s⟩ from ⟨rfl, rfl, .inr (.inl hs)⟩)
      rw [← hs]
      clear hs z2 zb zf c7b2
      replace BB := qa.mk (zu BB.out 2 (.string s) rfl)
      replace HR := qa.mk (Kd.R_far HR.out (p := ⟨gB, 2, none⟩) (fun _ h => h.2) (.string s))
      replace ST := qa.mk (ST.out.set GB.out G2B.out G3B.out (fun _ h => h.2) 2 (.string s))
      clear BA
      generalize W4.setCell ⟨gB, 2, none⟩ (.string s) = W6 at BB HR ST ⊢
      have y0 : W6.cell? ⟨gB, 0, none⟩ = some (.string a.f0) := (ql BB.out 0).trans rfl
      have y1 : W6.cell? ⟨gB, 1, none⟩ = some (.int .i64 12) := (ql BB.out 1).trans rfl
      have y2 : W6.cell? ⟨gB, 2, none⟩ = some (.string s) := (ql BB.out 2).trans rfl
      have LM := qa.mk (show l.length ≤ 1000 by have h1 := hsl.out.1; have h2 := hrs.out.1; rw [List.length_take] at h1; omega)
      go_wp2_with (first
       | ((with_reducible refine zl (N := 46) rfl ?_); refine Kd.R_lit k40 (w0 := W6) (W := W6) w.heap.size 40 ?hg (N := 46) ?hd (xs := [(⟨a.f0, 12, s⟩ : S40)]) (inner := [.string a.f0, .int .i64 12, .string s]) (ok := fun _ => True) (okp := fun _ => True) ?hr ?hp (fun _ hk => hk) trivial (Below.refl _ _) ST.out.k.1 yt ?_; (case hd => rfl); (case hg => rfl); (case hr => first | (go_simp; done) | (go_simp; rfl)); (case hp => exact (Reps.c3 (show Kd.M k40 _ _ _ (⟨a.f0, 12, s⟩ : S40) [.string a.f0, .int .i64 12, .string s] from (k9 _ _ _ (⟨a.f0, 12, s⟩ : S40))) (Reps.none _ _))); intro v46 W7 ho hb hg_ hnew; have hS := qa.mk ((ST.out.mono (ok' := fun k => some k ≠ (Value.slice A8 l.length c8).ownBlock ∧ k < W6.heap.size) (fun k _ h2 h3 => ⟨h3.1, h2⟩)).grown hg_ hb yt yt yt yt); have hR := qa.mk (Kd.R_grown HR.out hg_ yt); have HL := qa.mk ho; have HNW := qa.mk hnew; clear ST HR BB y0 y1 y2 ho hb hg_ hnew; have ST := hS; have HR := hR; clear hS hR)
       | ((with_reducible refine zl (N := 48) rfl ?_); refine Kd.R_append_rows k40 (Rr := k40.K W7) (w0 := W7) (W := W7) w.heap.size rfl (.tmp 46) (.tmp 47) 42 40 (.agg #[(.string ⟨#[]⟩), (.int .i64 0), (.string ⟨#[]⟩)]) 40 rfl Tryz.underlying42 info40 rfl (by decide) yg v46 [(⟨a.f0, 12, s⟩ : S40)] l A8 l.length c8 (fun _ => True) (fun _ => False) rfl rfl HL.out (Kd.xp HR.out).2.2 (fun x cs h => by rw [k40_open h]; exact k9 _ _ _ x) (fun _ hk => hk.elim) (fun _ _ => trivial) (Below.refl _ _) ST.out.k.1 (by have := LM.out; simp; omega) ?_; intro v1 W8 ho hb hg ho'; have hS := qa.mk (((ST.out.mono (ok' := fun k => some k ≠ v46.ownBlock ∧ k < W7.heap.size) (fun k _ h2 h3 => ⟨ne_new (v := .slice A8 l.length c8) (.inr HNW.out) h3, h2⟩)).grown hg hb (Kd.R_base HL.out) (Kd.R_ne HL.out ST.out.b2 (by decide)) (Kd.R_ne HL.out ST.out.b3 (by decide)) (fun _ h => h.1)).mono (ok' := fun k => some k ≠ v1.ownBlock) (fun k _ _ h3 => ne_new ho' h3)); have hR := qa.mk ho; clear ST HR HL HNW ho hb hg ho'; have ST := hS; have HR := hR; clear hS hR))
      go_roundg k2
      case measure => omega
      case rel => exact ⟨j + 1, [(⟨a.f0, 12, s⟩ : S40)] ++ l, by rw [WJ.out], ⟨by have := hj.out; omega⟩, ⟨by rw [List.take_add_one, HRJ.out]; exact SpR.snoc hsl.out SP.out⟩, ST, HR⟩
     ·subst hxx
      clear hx0 hx1
      obtain ⟨s, hs⟩ : ∃ s, xl.f a.f2 = some s := by
       have SZ := hsz.out
       unfold xl.f
       exact ⟨_, if_pos yg⟩
      have SP := qa.mk (show SpA a ⟨a.f0, 12, s⟩ from ⟨rfl, rfl, .inr (.inr hs)⟩)
      have HLO := qa.mk hs
      clear hs zb zf
      go_upto_region 15 with (go_at_call 59; refine (xl.calls a.f2 s _ HLO.out).mono ?_; rintro e W5 ⟨rfl, hb⟩; have zb : W5.cell? ⟨gB, 2, none⟩ = some (.string a.f2) := (ql (q9 BB.out hb) 2).trans rfl; have zf := qo (q9 BB.out hb) 2; have hS := qa.mk (ST.out.below hb); have hR := qa.mk (Kd.kt HR.out hb); have hBB := qa.mk (q9 BB.out hb); clear ST HR BB BA hb z2; have ST := hS; have HR := hR; have BB := hBB; clear hS hR hBB)
      clear zb zf
      replace BB := qa.mk (zu BB.out 2 (.string s) rfl)
      replace HR := qa.mk (Kd.R_far HR.out (p := ⟨gB, 2, none⟩) (fun _ h => h.2) (.string s))
      replace ST := qa.mk (ST.out.set GB.out G2B.out G3B.out (fun _ h => h.2) 2 (.string s))
      generalize W5.setCell ⟨gB, 2, none⟩ (.string s) = W6 at BB HR ST ⊢
      have y0 : W6.cell? ⟨gB, 0, none⟩ = some (.string a.f0) := (ql BB.out 0).trans rfl
      have y1 : W6.cell? ⟨gB, 1, none⟩ = some (.int .i64 12) := (ql BB.out 1).trans rfl
      have y2 : W6.cell? ⟨gB, 2, none⟩ = some (.string s) := (ql BB.out 2).trans rfl
      have LM := qa.mk (show l.length ≤ 1000 by have h1 := hsl.out.1; have h2 := hrs.out.1; rw [List.length_take] at h1; omega)
      go_wp2_with (first
       | ((with_reducible refine zl (N := 46) rfl ?_); refine Kd.R_lit k40 (w0 := W6) (W := W6) w.heap.size 40 ?hg (N := 46) ?hd (xs := [(⟨a.f0, 12, s⟩ : S40)]) (inner := [.string a.f0, .int .i64 12, .string s]) (ok := fun _ => True) (okp := fun _ => True) ?hr ?hp (fun _ hk => hk) trivial (Below.refl _ _) ST.out.k.1 yt ?_; (case hd => rfl); (case hg => rfl); (case hr => first | (go_simp; done) | (go_simp; rfl)); (case hp => exact (Reps.c3 (show Kd.M k40 _ _ _ (⟨a.f0, 12, s⟩ : S40) [.string a.f0, .int .i64 12, .string s] from (k9 _ _ _ (⟨a.f0, 12, s⟩ : S40))) (Reps.none _ _))); intro v46 W7 ho hb hg_ hnew; have hS := qa.mk ((ST.out.mono (ok' := fun k => some k ≠ (Value.slice A8 l.length c8).ownBlock ∧ k < W6.heap.size) (fun k _ h2 h3 => ⟨h3.1, h2⟩)).grown hg_ hb yt yt yt yt); have hR := qa.mk (Kd.R_grown HR.out hg_ yt); have HL := qa.mk ho; have HNW := qa.mk hnew; clear ST HR BB y0 y1 y2 ho hb hg_ hnew; have ST := hS; have HR := hR; clear hS hR)
       | ((with_reducible refine zl (N := 48) rfl ?_); refine Kd.R_append_rows k40 (Rr := k40.K W7) (w0 := W7) (W := W7) w.heap.size rfl (.tmp 46) (.tmp 47) 42 40 (.agg #[(.string ⟨#[]⟩), (.int .i64 0), (.string ⟨#[]⟩)]) 40 rfl Tryz.underlying42 info40 rfl (by decide) yg v46 [(⟨a.f0, 12, s⟩ : S40)] l A8 l.length c8 (fun _ => True) (fun _ => False) rfl rfl HL.out (Kd.xp HR.out).2.2 (fun x cs h => by rw [k40_open h]; exact k9 _ _ _ x) (fun _ hk => hk.elim) (fun _ _ => trivial) (Below.refl _ _) ST.out.k.1 (by have := LM.out; simp; omega) ?_; intro v1 W8 ho hb hg ho'; have hS := qa.mk (((ST.out.mono (ok' := fun k => some k ≠ v46.ownBlock ∧ k < W7.heap.size) (fun k _ h2 h3 => ⟨ne_new (v := .slice A8 l.length c8) (.inr HNW.out) h3, h2⟩)).grown hg hb (Kd.R_base HL.out) (Kd.R_ne HL.out ST.out.b2 (by decide)) (Kd.R_ne HL.out ST.out.b3 (by decide)) (fun _ h => h.1)).mono (ok' := fun k => some k ≠ v1.ownBlock) (fun k _ _ h3 => ne_new ho' h3)); have hR := qa.mk ho; clear ST HR HL HNW ho hb hg ho'; have ST := hS; have HR := hR; clear hS hR))
      go_roundg k2
      case measure => omega
      case rel => exact ⟨j + 1, [(⟨a.f0, 12, s⟩ : S40)] ++ l, by rw [WJ.out], ⟨by have := hj.out; omega⟩, ⟨by rw [List.take_add_one, HRJ.out]; exact SpR.snoc hsl.out SP.out⟩, ST, HR⟩
     ·subst hxx
      clear hx0 hx1
      go_upto_region 15 with (fail)
      obtain ⟨s, hs⟩ : ∃ s, s = a.f2 := ⟨_, rfl⟩
      have SP := qa.mk (show SpA a ⟨a.f0, 12, s⟩ from ⟨rfl, rfl, .inl hs⟩)
      rw [← hs] at BB
      clear hs z2 zb zf
      obtain ⟨W6, hW6⟩ : ∃ W, W = W4 := ⟨_, rfl⟩
      subst hW6
      have y0 : W6.cell? ⟨gB, 0, none⟩ = some (.string a.f0) := (ql BB.out 0).trans rfl
      have y1 : W6.cell? ⟨gB, 1, none⟩ = some (.int .i64 12) := (ql BB.out 1).trans rfl
      have y2 : W6.cell? ⟨gB, 2, none⟩ = some (.string s) := (ql BB.out 2).trans rfl
      have LM := qa.mk (show l.length ≤ 1000 by have h1 := hsl.out.1; have h2 := hrs.out.1; rw [List.length_take] at h1; omega)
      go_wp2_with (first
       | ((with_reducible refine zl (N := 46) rfl ?_); refine Kd.R_lit k40 (w0 := W6) (W := W6) w.heap.size 40 ?hg (N := 46) ?hd (xs := [(⟨a.f0, 12, s⟩ : S40)]) (inner := [.string a.f0, .int .i64 12, .string s]) (ok := fun _ => True) (okp := fun _ => True) ?hr ?hp (fun _ hk => hk) trivial (Below.refl _ _) ST.out.k.1 yt ?_; (case hd => rfl); (case hg => rfl); (case hr => first | (go_simp; done) | (go_simp; rfl)); (case hp => exact (Reps.c3 (show Kd.M k40 _ _ _ (⟨a.f0, 12, s⟩ : S40) [.string a.f0, .int .i64 12, .string s] from (k9 _ _ _ (⟨a.f0, 12, s⟩ : S40))) (Reps.none _ _))); intro v46 W7 ho hb hg_ hnew; have hS := qa.mk ((ST.out.mono (ok' := fun k => some k ≠ (Value.slice A8 l.length c8).ownBlock ∧ k < W6.heap.size) (fun k _ h2 h3 => ⟨h3.1, h2⟩)).grown hg_ hb yt yt yt yt); have hR := qa.mk (Kd.R_grown HR.out hg_ yt); have HL := qa.mk ho; have HNW := qa.mk hnew; clear ST HR BB y0 y1 y2 ho hb hg_ hnew; have ST := hS; have HR := hR; clear hS hR)
       | ((with_reducible refine zl (N := 48) rfl ?_); refine Kd.R_append_rows k40 (Rr := k40.K W7) (w0 := W7) (W := W7) w.heap.size rfl (.tmp 46) (.tmp 47) 42 40 (.agg #[(.string ⟨#[]⟩), (.int .i64 0), (.string ⟨#[]⟩)]) 40 rfl Tryz.underlying42 info40 rfl (by decide) yg v46 [(⟨a.f0, 12, s⟩ : S40)] l A8 l.length c8 (fun _ => True) (fun _ => False) rfl rfl HL.out (Kd.xp HR.out).2.2 (fun x cs h => by rw [k40_open h]; exact k9 _ _ _ x) (fun _ hk => hk.elim) (fun _ _ => trivial) (Below.refl _ _) ST.out.k.1 (by have := LM.out; simp; omega) ?_; intro v1 W8 ho hb hg ho'; have hS := qa.mk (((ST.out.mono (ok' := fun k => some k ≠ v46.ownBlock ∧ k < W7.heap.size) (fun k _ h2 h3 => ⟨ne_new (v := .slice A8 l.length c8) (.inr HNW.out) h3, h2⟩)).grown hg hb (Kd.R_base HL.out) (Kd.R_ne HL.out ST.out.b2 (by decide)) (Kd.R_ne HL.out ST.out.b3 (by decide)) (fun _ h => h.1)).mono (ok' := fun k => some k ≠ v1.ownBlock) (fun k _ _ h3 => ne_new ho' h3)); have hR := qa.mk ho; clear ST HR HL HNW ho hb hg ho'; have ST := hS; have HR := hR; clear hS hR))
      go_roundg k2
      case measure => omega
      case rel => exact ⟨j + 1, [(⟨a.f0, 12, s⟩ : S40)] ++ l, by rw [WJ.out], ⟨by have := hj.out; omega⟩, ⟨by rw [List.take_add_one, HRJ.out]; exact SpR.snoc hsl.out SP.out⟩, ST, HR⟩
end Go.Proofs.YthdoohfdminfgaaGreatDoor.C
end
section
namespace Go.Proofs.YthdoohfdminfgaaGreatDoor.Pl
open Go.RowKit Go.Proofs.YthdoohfdminfgaaGreatDoorW.PrintWords Go.Proofs.YthdoohfdminfgaaGreatDoor.C
set_option linter.unusedSimpArgs false
set_option linter.unusedVariables false
theorem eqA_iff (a b : S40) : eqA a b = true ↔ a.f0.toList = b.f0.toList ∧ (F a.f2).toList = (F b.f2).toList := by
 unfold eqA
 by_cases h : a.f0.toList = b.f0.toList
 ·rw [if_pos h]
  exact ⟨fun e => ⟨h, beq_iff_eq.1 e⟩, fun e => beq_iff_eq.2 e.2⟩
 ·rw [if_neg h]
  exact ⟨fun e => absurd e yt, fun e => absurd e.1 h⟩
theorem hasS_iff (l : List S40) (a : S40) : hasS l a = true ↔ ∃ b ∈ l, eqA a b = true := by unfold hasS; exact List.any_eq_true
theorem sameS_iff (a b : List S40) : sameS a b = true ↔ a.length = b.length ∧ (∀ x ∈ a, hasS b x = true) ∧ (∀ y ∈ b, hasS a y = true) := by
 unfold sameS
 rw [Bool.and_eq_true, decide_eq_true_iff, List.all_eq_true]
 constructor
 ·rintro ⟨hl, h⟩
  refine ⟨hl, fun x hx => ?_, fun y hy => ?_⟩
  ·obtain ⟨i, hi, rfl⟩ := List.getElem_of_mem hx
   have := h (a[i], b[i]) (by rw [← List.getElem_zip (h := by rw [List.length_zip]; omega)]; exact List.getElem_mem _)
   exact (Bool.and_eq_true_iff.1 this).1
  ·obtain ⟨i, hi, rfl⟩ := List.getElem_of_mem hy
   have := h (a[i], b[i]) (by rw [← List.getElem_zip (h := by rw [List.length_zip]; omega)]; exact List.getElem_mem _)
   exact (Bool.and_eq_true_iff.1 this).2
 ·rintro ⟨hl, h1, h2⟩
  refine ⟨hl, fun p hp => ?_⟩
  have := List.of_mem_zip (a := p.1) (b := p.2) hp
  rw [h1 _ this.1, h2 _ this.2]
  rfl
theorem withinS_iff (n b : List (List S40)) : withinS n b = true ↔ b.length ≤ n.length ∧ ∀ (i : Nat) (x y : List S40), n[i]? = some x → b[i]? = some y → sameS x y = true := by
 unfold withinS
 rw [Bool.and_eq_true, decide_eq_true_iff, List.all_eq_true]
 constructor
 ·rintro ⟨hl, h⟩
  refine ⟨hl, fun i x y hx hy => ?_⟩
  obtain ⟨h1, e1⟩ := List.getElem?_eq_some_iff.1 hx
  obtain ⟨h2, e2⟩ := List.getElem?_eq_some_iff.1 hy
  exact h (x, y) (by rw [← e1, ← e2, ← List.getElem_zip (h := by rw [List.length_zip]; omega)]; exact List.getElem_mem _)
 ·rintro ⟨hl, h⟩
  refine ⟨hl, fun p hp => ?_⟩
  obtain ⟨i, hi, rfl⟩ := List.getElem_of_mem hp
  rw [List.length_zip] at hi
  rw [List.getElem_zip]
  exact h i _ _ (List.getElem?_eq_getElem yg) (List.getElem?_eq_getElem yg)
theorem matchS_iff (a b : List (List S40)) : matchS a b = true ↔ a.length = b.length ∧ withinS a b = true := by unfold matchS; rw [Bool.and_eq_true, decide_eq_true_iff]
theorem bytes_space (s : ByteArray) : bytesOf ((⟨#[32]⟩ : ByteArray) ++ s) = 32 :: bytesOf s := by
 unfold bytesOf
 rw [show ((⟨#[32]⟩ : ByteArray) ++ s).data.toList = (L (⟨#[32]⟩ : ByteArray)) ++ L s from L_append _ _]
 rfl
theorem bytes_low (s : ByteArray) : bytesOf (strOfNums ((bytesOf s).map lowC)) = (bytesOf s).map lowC := by
 have hL : (strOfNums ((bytesOf s).map lowC)).data.toList = (L s).map fun b => UInt8.ofNat (lowC (b.toNat : Int)).toNat := by
  rw [strOfNums_data, List.map_map]
  unfold bytesOf
  rw [List.map_map]
  rfl
 rw [show bytesOf (strOfNums ((bytesOf s).map lowC)) = (strOfNums ((bytesOf s).map lowC)).data.toList.map (fun b => (b.toNat : Int)) from rfl, hL]
 unfold bytesOf
 rw [List.map_map, List.map_map]
 apply List.map_congr_left
 intro b _
 exact low_byte b
theorem SpA_eq {x y : S40} (h : SpA x y) : eqA x y = true := by
 obtain ⟨h0, _, h2⟩ := h
 refine (eqA_iff x y).2 ⟨by rw [h0], ?_⟩
 have : F y.f2 = F x.f2 := by
  unfold F
  rcases h2 with h2 | h2 | h2
  ·rw [h2]
  ·rw [h2, bytes_space, foldP_space]
  ·unfold xl.f at h2
   split at h2
   ·injection h2 with h2
    rw [← h2, bytes_low, foldP_low]
   ·cases h2
 rw [this]
theorem SpR_same {r l : List S40} (h : SpR r l) : sameS r l = true :=
 (sameS_iff r l).2 ⟨h.1.symm, fun x hx => let ⟨y, hy, hs⟩ := h.2.1 x hx; (hasS_iff _ _).2 ⟨y, hy, SpA_eq hs⟩, fun y hy => let ⟨x, hx, hs⟩ := h.2.2 y hy; (hasS_iff _ _).2 ⟨x, hx, by rw [eqA_comm]; exact SpA_eq hs⟩⟩
theorem SpN_within {n m : List (List S40)} (h : SpN n m n.length) : withinS n m = true :=
 (withinS_iff n m).2 ⟨by rw [h.1]; exact Nat.le_refl _, fun i x y hx hy => SpR_same (h.2 i x y (by obtain ⟨hi, _⟩ := List.getElem?_eq_some_iff.1 hx; exact hi) hx hy)⟩
theorem SpN_match {n m : List (List S40)} (h : SpN n m n.length) : matchS n m = true := (matchS_iff n m).2 ⟨h.1.symm, SpN_within h⟩
theorem made12_small : ∀ a ∈ made12, a.f2.size ≤ 100 := by decide +kernel
theorem RelMade_fine {r : List S40} (h : RelMade r) : r.length ≤ 2 ∧ ∀ a ∈ r, a.f2.size ≤ 100 := by
 rcases h with ⟨a, ha, rfl⟩ | ⟨a, b, ha, hb, _, rfl⟩
 ·exact ⟨by simp, fun x hx => by obtain rfl := List.mem_singleton.1 hx; exact made12_small x ha⟩
 ·refine ⟨by simp, fun x hx => ?_⟩
  rcases List.mem_cons.1 hx with rfl | hx
  ·exact made12_small x ha
  ·obtain rfl := List.mem_singleton.1 hx
   exact made12_small x hb
def Tiny (B : Nat) (n : List (List S40)) : Prop := n.length ≤ 3 ∧ ∀ r ∈ n, r.length ≤ 2 ∧ ∀ a ∈ r, a.f2.size ≤ B
theorem Tiny.made {n : List (List S40)} (h : n.length ≤ 3) (h2 : ∀ r ∈ n, RelMade r) : Tiny 100 n := ⟨h, fun r hr => RelMade_fine (h2 r hr)⟩
theorem Tiny.fine {B : Nat} {n : List (List S40)} (h : Tiny B n) (hB : B ≤ 1000000) : FineN n := ⟨by have := h.1; omega, fun r hr => ⟨by have := (h.2 r hr).1; omega, fun a ha => by have := (h.2 r hr).2 a ha; omega⟩⟩
theorem Tiny.short {B : Nat} {n : List (List S40)} (h : Tiny B n) (hB : B ≤ 1000000) : Short n := ⟨by have := h.1; omega, fun r hr => ⟨by have := (h.2 r hr).1; omega, fun a ha => by have := (h.2 r hr).2 a ha; omega⟩⟩
theorem Tiny.take {B : Nat} {n : List (List S40)} (h : Tiny B n) (j : Nat) : Tiny B (n.take j) := ⟨by rw [List.length_take]; have := h.1; omega, fun r hr => h.2 r (List.mem_of_mem_take hr)⟩
theorem SpA_size {x y : S40} (h : SpA x y) : y.f2.size ≤ x.f2.size + 1 := by
 rcases h.2.2 with h2 | h2 | h2
 ·rw [h2]; omega
 ·rw [h2, ByteArray.size_append, show (⟨#[32]⟩ : ByteArray).size = 1 from rfl]; omega
 ·unfold xl.f at h2
  split at h2
  ·injection h2 with h2
   rw [← h2, strOfNums_size, List.length_map, bytesOf_length]
   omega
  ·cases h2
theorem Tiny.spell {B : Nat} {n m : List (List S40)} (h : Tiny B n) (hs : SpN n m n.length) : Tiny (B + 1) m := by
 refine ⟨by rw [hs.1]; exact h.1, fun l hl => ?_⟩
 obtain ⟨i, hi, rfl⟩ := List.getElem_of_mem hl
 have hin : i < n.length := by rw [← hs.1]; exact hi
 have sp := hs.2 i n[i] m[i] hin (List.getElem?_eq_getElem hin) (List.getElem?_eq_getElem hi)
 have h2 := h.2 n[i] (List.getElem_mem hin)
 refine ⟨by rw [sp.1]; exact h2.1, fun y hy => ?_⟩
 obtain ⟨x, hx, hxy⟩ := sp.2.2 y hy
 have := h2.2 x hx
 have := SpA_size hxy
 omega
end Go.Proofs.YthdoohfdminfgaaGreatDoor.Pl
end
section
namespace Go.Proofs.YthdoohfdminfgaaGreatDoor.C
open Go.RowKit Go.Proofs.YthdoohfdminfgaaGreatDoorW.PrintWords Go.Proofs.YthdoohfdminfgaaGreatDoorW.PrintLast Go.Proofs.YthdoohfdminfgaaGreatDoorW.PrintMore Go.Proofs.YthdoohfdminfgaaGreatDoor.Pl
set_option linter.unusedVariables false
def KeepT (g : Nat) (W W' : World) : Prop := W.heap.size ≤ W'.heap.size ∧ ∀ i, i < W.heap.size → i ≠ g → (∀ cs fr, W.heap[i]? ≠ some (.cells cs 31 fr)) → W'.heap[i]? = W.heap[i]?
theorem KeepT.of {g : Nat} {W W' : World} (h : KeepBut W W' g none) : KeepT g W W' := ⟨h.1, fun i hi hg _ => h.2 i hi hg yt⟩
theorem KeepT.trans {g : Nat} {W W1 W2 : World} (h : KeepT g W W1) (k : KeepT g W1 W2) : KeepT g W W2 :=
 ⟨Nat.le_trans h.1 k.1, fun i hi hg ht => by
  have e := h.2 i hi hg ht
  rw [← e]
  exact k.2 i (Nat.lt_of_lt_of_le hi h.1) hg (by rw [e]; exact ht)⟩
theorem KeepT.set {g q : Nat} {W : World} {cs : Array Value} {fr : Nat × Nat} (h : W.heap[q]? = some (.cells cs 31 fr)) (j : Nat) (u : Value) : KeepT g W (W.setCell ⟨q, j, none⟩ u) :=
 ⟨by simp [World.setCell], fun i hi hg ht => Below.heap_setCell W ⟨q, j, none⟩ u i (fun e => ht cs fr (by rw [e]; exact h))⟩
structure NameAt (g : Nat) (W : World) (A : Option Addr) (c : Nat) (n : List (List S40)) : Prop where
 foot : ∀ W', KeepT g W W' → Kd.C (Kd.slice 40 k40) W' A n.length n
 blk : ∀ ad, A = some ad → 0 < n.length → ad.block ≠ g ∧ ad.block < W.heap.size
 cap : n.length ≤ c
theorem NameAt.now {g : Nat} {W : World} {A : Option Addr} {c : Nat} {n : List (List S40)} (h : NameAt g W A c n) : Kd.C (Kd.slice 40 k40) W A n.length n := h.foot W (KeepT.of (KeepBut.refl _ _ _))
theorem NameAt.keep {g : Nat} {W W' : World} {A : Option Addr} {c : Nat} {n : List (List S40)} (h : NameAt g W A c n) (hk : KeepT g W W') : NameAt g W' A c n :=
 ⟨fun W2 h2 => h.foot W2 (hk.trans h2), fun ad e hp => ⟨(h.blk ad e hp).1, Nat.lt_of_lt_of_le (h.blk ad e hp).2 hk.1⟩, h.cap⟩
theorem NameAt.take {g : Nat} {W : World} {A : Option Addr} {c : Nat} {n : List (List S40)} (h : NameAt g W A c n) (j : Nat) (hj : j ≤ n.length) : NameAt g W A c (n.take j) :=
 ⟨fun W2 h2 => Kd.C_take (h.foot W2 h2) hj, fun ad e hp => h.blk ad e (by rw [List.length_take] at hp; omega), by rw [List.length_take]; have := h.cap; omega⟩
theorem NameAt.of_S {g base : Nat} {W : World} {A : Option Addr} {c : Nat} {n : List (List S40)} (h : Kd.S (Kd.slice 40 k40) 42 W base (fun k => k ≠ g) (.slice A n.length c) n) : NameAt g W A c n := by
 refine ⟨fun W' hk => (Kd.ja (Kd.S_step (Kd.S_bound h) (fun k ho hlt => hk.2 k hlt ho.1 (fun cs fr e => by
  obtain ⟨q, hq, cells, hc⟩ := ho.2.2.2
  rw [e] at hc
  injection hc with hc
  injection hc with _ h2
  subst h2
  revert hq
  decide)))).2.2, fun ad e hp => ?_, (Kd.ja h).2.1⟩
 subst e
 have ho : (Value.slice (some ad) n.length c).ownBlock = some ad.block := by simp [Value.ownBlock]
 exact ⟨(Kd.S_R h).1 _ ho, Kd.S_lt h _ ho⟩
theorem matchR (W : World) {g1 g2 : Nat} {Aa Ab : Option Addr} {ca cb : Nat} {a b : List (List S40)} (ha : NameAt g1 W Aa ca a) (hb : NameAt g2 W Ab cb b) (fa : FineN a) (fb : FineN b) {r : Bool} (h : matchS a b = r) :
  Calls Tryz.prog 26 #[.agg #[.slice Aa a.length ca], .agg #[.slice Ab b.length cb]] W fun e w' => e = .returned (.bool r) ∧ Below W.heap.size W w' := by
 obtain ⟨k, hk⟩ := (MatchN_r a b fa fb).rounds
 rw [h] at hk
 exact xu.calls k Aa ca a Ab cb b r W ha.now ha.cap hb.now hb.cap hk
theorem awake_ev : Ev (fun k => xf.f k) true := Ev.of (xf.mono) (k := 60) yj
theorem awakeT (W : World) (hG : LibHeld W) : Calls Tryz.prog 8 #[] W fun e w' => e = .returned (.bool true) ∧ Below W.heap.size W w' := by
 obtain ⟨k, hk⟩ := awake_ev.rounds
 exact xf.calls k true W hG hk
theorem newT (W : World) (A : Option Addr) (c : Nat) (l : List Int) (hl : Kd.C (Kd.int .i64) W A l.length l) (hc : l.length ≤ c) (hL : l.length ≤ 140737488351232) :
  Calls Tryz.prog 9 #[.slice A l.length c] W fun e w' => ∃ g, e = .returned (.pointer (some ⟨g, 0, none⟩)) ∧ DK W w' g ∧ Below W.heap.size W w' := by
 refine (certpathmade_New.calls A c l l 0 W W (Below.refl _ _) hl hc rfl).mono ?_
 rintro e w' ⟨g, rfl, hi, hb, _⟩
 exact ⟨g, rfl, ⟨l, 0, hi, Int.le_refl _, by omega, hL⟩, hb⟩
theorem spellT (W0 W : World) {g : Nat} {A : Option Addr} {c : Nat} {n : List (List S40)} (hI : DK W0 W g) (hB : Below W0.heap.size W0 W) (hn : NameAt g W A c n) (hs : Short n) :
  Calls Tryz.prog 27 #[.pointer (some ⟨g, 0, none⟩), .agg #[.slice A n.length c]] W fun e w' => ∃ (B : Option Addr) (d : Nat) (m : List (List S40)), e = .returned (.agg #[.slice B m.length d]) ∧ SpN n m n.length ∧ NameAt g w' B d m ∧ DK W0 w' g ∧ Below W0.heap.size W0 w' ∧ KeepBut W w' g none := by
 refine (spelled_weak g W0 W A c n hI hB (fun W' hk => hn.foot W' (KeepT.of hk)) hn.blk hn.cap hs).mono ?_
 rintro e w' ⟨v, m, rfl, hsp, hS, hd, hb, hk⟩
 obtain ⟨B, d, rfl⟩ := Kd.k8 hS
 exact ⟨B, d, m, rfl, hsp, NameAt.of_S hS, hd, hb, hk⟩
theorem nameT (W0 W : World) {g : Nat} (hI : DK W0 W g) (hB : Below W0.heap.size W0 W) :
  Calls Tryz.prog 11 #[.pointer (some ⟨g, 0, none⟩)] W fun e w' => ∃ (B : Option Addr) (d : Nat) (m : List (List S40)), e = .returned (.agg #[.slice B m.length d]) ∧ Tiny 100 m ∧ (∀ r ∈ m, RelMade r) ∧ NameAt g w' B d m ∧ DK W0 w' g ∧ Below W0.heap.size W0 w' ∧ KeepBut W w' g none := by
 refine (name_weak g W0 W hI hB).mono ?_
 rintro e w' ⟨v, m, rfl, hl, hr, hS, hd, hb, hk⟩
 obtain ⟨B, d, rfl⟩ := Kd.k8 hS
 exact ⟨B, d, m, rfl, Tiny.made hl hr, hr, NameAt.of_S hS, hd, hb, hk⟩
end Go.Proofs.YthdoohfdminfgaaGreatDoor.C
end
section
namespace Go.Proofs.YthdoohfdminfgaaGreatDoor.C
open Go.RowKit Go.ChangeShapes Go.WideShapes Go.Proofs.YthdoohfdminfgaaGreatDoorW.PrintWords Go.Proofs.YthdoohfdminfgaaGreatDoor.Pl
set_option linter.unusedVariables false
set_option maxRecDepth 100000
theorem at_c {P : Program} (f : FuncId) {args : Array Value} {w : World} {Q : Ending → World → Prop} (h : Calls P f args w Q) : Calls P f args w Q := h
end Go.Proofs.YthdoohfdminfgaaGreatDoor.C
end
