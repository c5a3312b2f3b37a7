/- Words, walks and plain laws that the claim rests on, gathered. -/
import Derived.Lib.SplitLaws
import Derived.Below
import Derived.Deep.Draws
import Derived.Deep.AppendLies
import Derived.Maps.AppendAt
import Derived.OwnWalk
import Derived.Laws.BytesArg
import Derived.Laws.MakeOwn
import Derived.Laws.OwnMore
import Derived.Deep.OwnRows
import Derived.Tactics
import Derived.Lib.ConvBytes
import Derived.Laws.Slices
import Derived.WalkKit
import Derived.KernelRfl
import Derived.RowKit3
import Derived.Deep.LoopGhost
import Derived.Deep.QuietTactic
import Derived.BigQuiet
import Derived.WideLaws
import Derived.Deep.DeepCutAuto
import Derived.Deep.CutBlock
import Derived.Deep.RegionHeld3
import Derived.Laws.Rows
import Derived.Lib.AppendStr
import Derived.ArgAppend
import Derived.Laws.IdiomCopy
import Derived.RowKit
import Derived.Test.YtaonlbjdhilioaaDoorProg
import Derived.WalkSpells
import Derived.OrdersHeld
import Derived.Laws.BitsLemmas
import Derived.Laws.StructEq
import Derived.Shelf.Small.Strs
import Derived.Shelf.Small.Wraps
import Derived.Shelf.Utf8.RuneCount
import Derived.Shelf.Strings.Search1
import Derived.Shelf.Strings.Search2
import Derived.Shelf.Strings.Search3
import Derived.Shelf.Strings.Cut
import Derived.Shelf.Strings.Count
import Derived.Shelf.LaysM
import Derived.Shelf.Strings.Shaped
import Derived.Shelf.Strings.Prefix
import Derived.Shelf.Strings.Split
import Derived.Shelf.Strings.SplitShaped
import Derived.Shelf.Unicode.DecodeSlow
import Derived.Shelf.Unicode.DecodeAny
import Derived.SizedLaws
import Derived.ChangeSlices
import Derived.Test.YtaonlbjdhilioaaDoorNP0
import Derived.Test.YtaonlbjdhilioaaDoorNP1
import Derived.Test.YtaonlbjdhilioaaDoorNP2
import Derived.Test.YtaonlbjdhilioaaDoorNP3
import Derived.Test.YtaonlbjdhilioaaDoorNP4
import Derived.Test.YtaonlbjdhilioaaDoorNP5
import Derived.Test.YtaonlbjdhilioaaDoorNP6
import Derived.Test.YtaonlbjdhilioaaDoorNP7
import Derived.Test.YtaonlbjdhilioaaDoorNP8
import Derived.Test.YtaonlbjdhilioaaDoorNP9
import Derived.Test.YtaonlbjdhilioaaDoorNP10
import Derived.Test.YtaonlbjdhilioaaDoorNP11
import Derived.Test.YtaonlbjdhilioaaDoorNP12
import Derived.Test.YtaonlbjdhilioaaDoorNP13
import Derived.Test.YtaonlbjdhilioaaDoorNP14
import Derived.Test.YtaonlbjdhilioaaDoorNP15
import Derived.Test.YtaonlbjdhilioaaDoorNP16
namespace Go.Proofs.YtaonlbjdhilioaaDoorW.PrintLast
end Go.Proofs.YtaonlbjdhilioaaDoorW.PrintLast
namespace Go.Proofs.YtaonlbjdhilioaaDoorW.PrintMore
end Go.Proofs.YtaonlbjdhilioaaDoorW.PrintMore
namespace Go.Proofs.YtaonlbjdhilioaaDoorW.PrintWords
end Go.Proofs.YtaonlbjdhilioaaDoorW.PrintWords
section
namespace Go.Proofs.YtaonlbjdhilioaaDoor.Pl
open Go.RowKit Go.Proofs.YtaonlbjdhilioaaDoorW.PrintWords Go.Proofs.YtaonlbjdhilioaaDoor.C
set_option linter.unusedSimpArgs false
set_option linter.unusedVariables false
def words : List (List UInt8 × List UInt8) := [([67, 78], [50, 46, 53, 46, 52, 46, 51]), ([67], [50, 46, 53, 46, 52, 46, 54]), ([76], [50, 46, 53, 46, 52, 46, 55]), ([79], [50, 46, 53, 46, 52, 46, 49, 48]), ([79, 85], [50, 46, 53, 46, 52, 46, 49, 49]), ([68, 67], [48, 46, 57, 46, 50, 51, 52, 50, 46, 49, 57, 50, 48, 48, 51, 48, 48, 46, 49, 48, 48, 46, 49, 46, 50, 53]), ([69], [49, 46, 50, 46, 56, 52, 48, 46, 49, 49, 51, 53, 52, 57, 46, 49, 46, 57, 46, 49])]
def wordF (id : List UInt8) : List (List UInt8 × List UInt8) → List UInt8
 | [] => id
 | p :: ps => if p.1 = id then p.2 else wordF id ps
def wordR (id : List UInt8) : List (List UInt8 × List UInt8) → List UInt8
 | [] => id
 | p :: ps => if p.1 = id then wordR p.2 ps else wordR id ps
theorem wordR_stay (id : List UInt8) : ∀ ps : List (List UInt8 × List UInt8), (∀ p ∈ ps, p.1 ≠ id) → wordR id ps = id
 | [], _ => rfl
 | p :: ps, h => by
  rw [wordR, if_neg (h p (List.mem_cons_self ..))]
  exact wordR_stay id ps fun q hq => h q (List.mem_cons_of_mem _ hq)
theorem wordR_eq (id : List UInt8) : ∀ ps : List (List UInt8 × List UInt8), (∀ p ∈ ps, ∀ q ∈ ps, q.1 ≠ p.2) → wordR id ps = wordF id ps
 | [], _ => rfl
 | p :: ps, h => by
  rw [wordR, wordF]
  split
  ·exact wordR_stay _ ps fun q hq => h p (List.mem_cons_self ..) q (List.mem_cons_of_mem _ hq)
  ·exact wordR_eq id ps fun a ha q hq => h a (List.mem_cons_of_mem _ ha) q (List.mem_cons_of_mem _ hq)
theorem words_eq (id : List UInt8) : wordR id words = wordF id words := wordR_eq id words (by decide)
theorem wordF_size (id : List UInt8) : ∀ ps : List (List UInt8 × List UInt8), (∀ p ∈ ps, p.2.length ≤ 26) → (wordF id ps).length ≤ id.length + 26
 | [], _ => by simp [wordF]
 | p :: ps, h => by
  rw [wordF]
  split
  ·have := h p (List.mem_cons_self ..); omega
  ·exact wordF_size id ps fun q hq => h q (List.mem_cons_of_mem _ hq)
theorem words_size (id : List UInt8) : (wordF id words).length ≤ id.length + 26 := wordF_size id words (by decide)
def domain : List UInt8 := [48, 46, 57, 46, 50, 51, 52, 50, 46, 49, 57, 50, 48, 48, 51, 48, 48, 46, 49, 48, 48, 46, 49, 46, 50, 53]
def mail : List UInt8 := [49, 46, 50, 46, 56, 52, 48, 46, 49, 49, 51, 53, 52, 57, 46, 49, 46, 57, 46, 49]
def kindOf (id : List UInt8) (v : ByteArray) : Int := if id = domain ∨ id = mail then 22 else if okText 19 v = true then 19 else 12
noncomputable def attrRest (id : List UInt8) : Option (List UInt8) → Option S26
 | none => none
 | some v => if okOid (wordF id words) = true then some ⟨S (wordF id words), kindOf (wordF id words) (S v), S v⟩ else none
noncomputable def attrOf (w : List UInt8) : Option S26 := if (before 61 w).length = w.length then none else attrRest (before 61 w) (unesc (w.drop ((before 61 w).length + 1)))
def attrZ : Option S26 → ByteArray × Int × ByteArray × Bool
 | none => (⟨#[]⟩, 0, ⟨#[]⟩, false)
 | some a => (a.f0, a.f1, a.f2, true)
theorem attrOf_size (w : List UInt8) (a : S26) (h : attrOf w = some a) : a.f0.size ≤ w.length + 26 ∧ a.f2.size ≤ w.length := by
 unfold attrOf at h
 split at h
 ·cases h
 ·cases hu : unesc (w.drop ((before 61 w).length + 1)) with
  | none => rw [hu] at h; cases h
  | some v =>
   rw [hu] at h
   have hv := unesc_size _ _ hu
   rw [List.length_drop] at hv
   simp only [attrRest] at h
   split at h
   ·cases h
    have h1 := words_size (before 61 w)
    have h2 := jg 61 w
    simp only [jh]
    exact ⟨by omega, by omega⟩
   ·cases h
def shortsT : List S95 := words.map fun p => ⟨S p.1, S p.2⟩
theorem shorts_f : jk.f = some shortsT := rfl
theorem rd95 {l : List S95} {i : Nat} {a : S95} {r : List S95} (h : l.drop i = a :: r) : rd_T95 l i = a := (kz (d := z95) h).2.1
theorem pa_j2 (id v : ByteArray) (hv : v.size < 4294967281) (b : Bool) : Ev (fun k => qp.j2 k id v b) (if b = true then attrZ none else (id, kindOf (L id) v, v, true)) := by
 refine Ev.step (fun k => by rw [qp.j2]) ?_
 cases b with
 | true => exact Ev.pos rfl (Ev.now _)
 | false =>
  refine Ev.neg (by decide) ?_
  rw [if_neg (by decide)]
  have jt : Ev (fun k => qp.j3 k id v 12 true) (id, 22, v, true) := by
   refine Ev.step (fun k => by rw [qp.j3]) ?_
   exact Ev.pos rfl (Ev.now _)
  by_cases hd : L id = domain
  ·refine Ev.pos (by rw [xy]; exact hd) (jt.to ?_)
   unfold kindOf
   rw [if_pos (Or.inl hd)]
  refine Ev.neg (by rw [xy]; exact hd) ?_
  by_cases hm : L id = mail
  ·have e : (id.toList == ([49, 46, 50, 46, 56, 52, 48, 46, 49, 49, 51, 53, 52, 57, 46, 49, 46, 57, 46, 49] : List UInt8)) = true := by rw [xy, beq_iff_eq]; exact hm
   rw [e]
   refine jt.to ?_
   unfold kindOf
   rw [if_pos (Or.inr hm)]
  ·have e : (id.toList == ([49, 46, 50, 46, 56, 52, 48, 46, 49, 49, 51, 53, 52, 57, 46, 49, 46, 57, 46, 49] : List UInt8)) = false := by rw [xy, beq_eq_false_iff_ne]; exact hm
   rw [e]
   refine Ev.step (fun k => by rw [qp.j3]) (Ev.neg (by decide) (Ev.bnd (text_Valid_f 19 v (by omega)) ?_))
   have ek : kindOf (L id) v = if okText 19 v = true then 19 else 12 := if_neg (fun h => h.elim hd hm)
   by_cases ht : okText 19 v = true
   ·refine Ev.pos ht ((Ev.now _).to ?_)
    rw [ek, if_pos ht]
   ·refine Ev.neg ht ((Ev.now _).to ?_)
    rw [ek, if_neg ht]
noncomputable def restOf (id : List UInt8) : Option (List UInt8) → Option S26
 | none => none
 | some v => if okOid id = true then some ⟨S id, kindOf id (S v), S v⟩ else none
theorem pa_j1 (id rest : ByteArray) (hi : id.size < 4294967281) (hr : rest.size < 1000000000) : Ev (fun k => qp.j1 k id rest) (attrZ (restOf (L id) (unesc (L rest)))) := by
 refine Ev.step (fun k => by rw [qp.j1]) (Ev.bind (Unescape_both rest hr).1 ?_)
 cases hu : unesc (L rest) with
 | none => exact Ev.neg (by decide) ((pa_j2 id _ (by decide) true).to rfl)
 | some v =>
  have hv := unesc_size _ _ hu
  rw [← ja] at hv
  refine Ev.pos rfl (Ev.bind (oid_Valid_f id hi) ((pa_j2 id (S v) (by rw [jh]; omega) _).to ?_))
  simp only [restOf]
  cases ho : okOid (L id) with
  | true =>
   simp only [Bool.not_true, Bool.false_eq_true, if_false, if_true, attrZ, S_L]
  | false =>
   simp only [Bool.not_false, Bool.false_eq_true, if_false, if_true]
theorem pa_l0 (rest id : ByteArray) (hi : id.size < 1000000000) (hr : rest.size < 1000000000) : ∀ (ps : List (List UInt8 × List UInt8)) (i : Nat), words.drop i = ps → Ev (fun k => qp.l0 k id rest shortsT (shortsT.length : Int) i) (attrZ (restOf (wordF (L id) ps) (unesc (L rest))))
 | [], i, h => by
  have hn := list_nil h
  have hl : shortsT.length = 7 := rfl
  have hl2 : words.length = 7 := rfl
  refine Ev.step (fun k => by rw [qp.l0]) ?_
  exact Ev.neg (by omega) (pa_j1 id rest (by omega) hr)
 | p :: ps, i, h => by
  obtain ⟨hli, _, ht⟩ := kz (d := ([], [])) h
  have hl : shortsT.length = 7 := rfl
  have hl2 : words.length = 7 := rfl
  have hs : shortsT.drop i = (⟨S p.1, S p.2⟩ : S95) :: shortsT.drop (i + 1) := by
   unfold shortsT
   rw [← List.map_drop, h, List.map_cons, ← List.map_drop, ht]
  refine Ev.step (fun k => by rw [qp.l0]) ?_
  rw [rd95 hs]
  refine Ev.pos (by omega) (Ev.pos (by omega) (Ev.pos (by omega) ?_))
  rw [wordF]
  by_cases hc : p.1 = L id
  ·rw [if_pos hc]
   refine Ev.pos (by rw [xy, xy]; exact hc) ?_
   have hp2 : p.2.length ≤ 26 := by
    have : p ∈ words := List.mem_of_mem_drop (i := i) (by rw [h]; exact List.mem_cons_self ..)
    exact (by decide : ∀ p ∈ words, p.2.length ≤ 26) p this
   exact pa_j1 (S p.2) rest (by rw [jh]; omega) hr
  ·rw [if_neg hc]
   refine Ev.neg (by rw [xy, xy]; exact hc) ?_
   rw [w64 (n := (i : Int) + 1) (by omega) (by omega)]
   exact pa_l0 rest id hi hr ps (i + 1) ht
theorem attrRest_eq (id : List UInt8) (o : Option (List UInt8)) : attrRest id o = restOf (wordF id words) o := by cases o <;> rfl
theorem parseAttribute_f (w : ByteArray) (hw : w.size < 1000000000) : Ev (fun k => qp.f k w) (attrZ (attrOf (L w))) := by
 unfold qp.f
 have hcut : strings_Cut.f w (⟨#[61]⟩ : ByteArray) = some (S (Lib.cut (L w) [61]).1, S (Lib.cut (L w) [61]).2.1, (Lib.cut (L w) [61]).2.2) := by
  unfold strings_Cut.f
  rw [if_pos (by omega)]
  rfl
 refine Ev.bnd hcut ?_
 have hb := jg 61 (L w)
 have hsz := ja w
 rw [cut_before]
 unfold attrOf
 by_cases hc : (before 61 (L w)).length = (L w).length
 ·rw [if_pos hc, if_pos hc]
  exact Ev.neg Bool.false_ne_true (Ev.now _)
 ·rw [if_neg hc, if_neg hc]
  refine Ev.pos rfl (Ev.bnd shorts_f ?_)
  rw [attrRest_eq]
  refine (pa_l0 (S ((L w).drop ((before 61 (L w)).length + 1))) (S (before 61 (L w))) (by rw [jh]; omega) (by rw [jh, List.length_drop]; omega) words 0 rfl).to ?_
  rw [L_S, L_S]
noncomputable def allAttrs : List (List UInt8) → Option (List S26)
 | [] => some []
 | w :: r => match attrOf w, allAttrs r with | some a, some l => some (a :: l) | _, _ => none
noncomputable def allRels : List (List UInt8) → Option (List (List S26))
 | [] => some []
 | p :: r => match allAttrs (pieces 43 p), allRels r with | some l, some n => some (l :: n) | _, _ => none
def nameZ : Option (List (List S26)) → List (List S26) × Int
 | none => ([], 32)
 | some n => if nameErr n = 0 then (n, 0) else ([], nameErr n)
noncomputable def parseOf (s : List UInt8) : List (List S26) × Int := if s = [] then ([], 0) else nameZ (allRels (pieces 44 s))
theorem allAttrs_fit : ∀ (ws : List (List UInt8)) (l : List S26), (∀ w ∈ ws, w.length < 1000000000) → allAttrs ws = some l → Fit l
 | [], l, _, h => by
  have : l = [] := by unfold allAttrs at h; cases h; rfl
  subst this
  intro a ha
  cases ha
 | w :: r, l, hw, h => by
  unfold allAttrs at h
  split at h
  ·rename_i a l' h1 h2
   cases h
   intro x hx
   rcases List.mem_cons.1 hx with rfl | hx
   ·have := attrOf_size w x h1
    have := hw w (List.mem_cons_self ..)
    exact ⟨by omega, by omega⟩
   ·exact allAttrs_fit r l' (fun v hv => hw v (List.mem_cons_of_mem _ hv)) h2 x hx
  ·cases h
theorem allRels_fit : ∀ (ps : List (List UInt8)) (n : List (List S26)), (∀ p ∈ ps, p.length < 1000000000) → allRels ps = some n → ∀ l ∈ n, Fit l
 | [], n, _, h => by
  have : n = [] := by unfold allRels at h; cases h; rfl
  subst this
  intro a ha
  cases ha
 | p :: r, n, hw, h => by
  unfold allRels at h
  split at h
  ·rename_i l n' h1 h2
   cases h
   intro x hx
   rcases List.mem_cons.1 hx with rfl | hx
   ·refine allAttrs_fit (pieces 43 p) x (fun w hw' => ?_) h1
    have := pieces_size 43 p w hw'
    have := hw p (List.mem_cons_self ..)
    omega
   ·exact allRels_fit r n' (fun v hv => hw v (List.mem_cons_of_mem _ hv)) h2 x hx
  ·cases h
theorem rdS {ws : List (List UInt8)} {i : Nat} {w : List UInt8} {t : List (List UInt8)} (h : ws.drop i = w :: t) : rdOf ByteArray.empty (ws.map S) i = S w := by
 have : (ws.map S).drop i = S w :: t.map S := by rw [← List.map_drop, h, List.map_cons]
 exact (kz (d := ByteArray.empty) this).2.1
theorem Parse_l1 (x17 : List ByteArray) (x18 x19 : Int) (n : List (List S26)) (ws : List (List UInt8)) (hws : ws.length < 1000000000) (hw : ∀ w ∈ ws, w.length < 1000000000) (r : List (List S26) × Int) : ∀ (rest : List (List UInt8)) (i : Nat) (acc : List S26), ws.drop i = rest → acc.length = i → i ≤ ws.length →
  (match allAttrs rest with | none => r = ([], 32) | some l => Ev (fun k => if n.length < 5864062014805 then zm.l0 k x17 x18 (wrap64 (x19 + 1)) (n ++ [acc ++ l]) else none) r) →
  Ev (fun k => zm.l1 k acc x17 x18 x19 (ws.map S) (ws.length : Int) i n) r
 | [], i, acc, h, ha, hi, hr => by
  have hn := list_nil h
  simp only [allAttrs, List.append_nil] at hr
  refine Ev.step (fun k => by rw [zm.l1]) ?_
  exact Ev.neg (by omega) hr
 | w :: t, i, acc, h, ha, hi, hr => by
  obtain ⟨hli, _, ht⟩ := kz (d := ([] : List UInt8)) h
  have hww := hw w (List.mem_of_mem_drop (i := i) (by rw [h]; exact List.mem_cons_self ..))
  refine Ev.step (fun k => by rw [zm.l1]) ?_
  rw [rdS h]
  refine Ev.pos (by omega) (Ev.pos (by omega) (Ev.pos (by rw [List.length_map]; omega) (Ev.bind (parseAttribute_f (S w) (by rw [jh]; omega)) ?_)))
  rw [L_S]
  simp only [allAttrs] at hr
  cases hA : attrOf w with
  | none =>
   simp only [hA] at hr
   rw [hr]
   exact Ev.neg (by decide) (Ev.now _)
  | some a =>
   refine Ev.pos rfl (Ev.pos (by omega) ?_)
   rw [w64 (n := (i : Int) + 1) (by omega) (by omega)]
   refine Parse_l1 x17 x18 x19 n ws hws hw r t (i + 1) (acc ++ [a]) ht (by simp [ha]) (by omega) ?_
   simp only [hA] at hr
   cases hB : allAttrs t with
   | none => simp only [hB] at hr ⊢; exact hr
   | some l =>
    simp only [hB] at hr ⊢
    rw [List.append_assoc, List.singleton_append]
    exact hr
theorem Parse_l0 (ps : List (List UInt8)) (hps : ps.length < 1000000000) (hp : ∀ p ∈ ps, p.length < 999999999) (n0 : Option (List (List S26))) (hn0 : allRels ps = n0) : ∀ (rest : List (List UInt8)) (i : Nat) (n : List (List S26)), ps.drop i = rest → n.length = i → i ≤ ps.length →
  (match allRels rest with | none => n0 = none | some m => n0 = some (n ++ m)) →
  Ev (fun k => zm.l0 k (ps.map S) (ps.length : Int) i n) (nameZ n0)
 | [], i, n, h, hl, hi, hr => by
  have hn := list_nil h
  simp only [allRels, List.append_nil] at hr
  subst hr
  refine Ev.step (fun k => by rw [zm.l0]) ?_
  refine Ev.neg (by omega) (Ev.bind (Check_f n (allRels_fit ps n (fun p hp' => by have := hp p hp'; omega) hn0)) ?_)
  unfold nameZ
  by_cases h0 : nameErr n = 0
  ·simp only [if_pos h0]
   exact Ev.now _
  ·simp only [if_neg h0]
   exact Ev.now _
 | p :: t, i, n, h, hl, hi, hr => by
  obtain ⟨hli, _, ht⟩ := kz (d := ([] : List UInt8)) h
  have hpp := hp p (List.mem_of_mem_drop (i := i) (by rw [h]; exact List.mem_cons_self ..))
  refine Ev.step (fun k => by rw [zm.l0]) ?_
  rw [rdS h]
  refine Ev.pos (by omega) (Ev.pos (by omega) (Ev.pos (by rw [List.length_map]; omega) (Ev.bnd (Split_f 43 (S p) (by rw [jh]; omega)) ?_)))
  rw [L_S, List.length_map]
  have hpl := jl 43 p
  refine Parse_l1 _ _ _ n (pieces 43 p) (by omega) (fun w hw => by have := pieces_size 43 p w hw; omega) _ (pieces 43 p) 0 [] rfl rfl (by omega) ?_
  simp only [allRels] at hr
  cases hA : allAttrs (pieces 43 p) with
  | none =>
   simp only [hA] at hr
   simp only
   rw [hr]
   rfl
  | some l =>
   simp only [List.nil_append]
   refine Ev.pos (by omega) ?_
   rw [w64 (n := (i : Int) + 1) (by omega) (by omega)]
   refine Parse_l0 ps hps hp n0 hn0 t (i + 1) (n ++ [l]) ht (by simp [hl]) (by omega) ?_
   simp only [hA] at hr
   cases hB : allRels t with
   | none => simp only [hB] at hr ⊢; exact hr
   | some m =>
    simp only [hB] at hr ⊢
    rw [List.append_assoc, List.singleton_append]
    exact hr
theorem Parse_f (s : ByteArray) (hs : s.size < 999999990) : Ev (fun k => zm.f k s) (parseOf (L s)) := by
 unfold zm.f parseOf
 by_cases h0 : L s = []
 ·rw [if_pos h0]
  exact Ev.pos (by rw [xy]; exact h0) (Ev.now _)
 rw [if_neg h0]
 refine Ev.neg (by rw [xy]; exact h0) (Ev.bnd (Split_f 44 s (by omega)) ?_)
 rw [List.length_map]
 have hl := jl 44 (L s)
 have hsz := ja s
 refine Parse_l0 (pieces 44 (L s)) (by omega) (fun p hp => by have := pieces_size 44 (L s) p hp; omega) _ rfl (pieces 44 (L s)) 0 [] rfl rfl (by omega) ?_
 cases hB : allRels (pieces 44 (L s)) with
 | none => rfl
 | some m => rfl
end Go.Proofs.YtaonlbjdhilioaaDoor.Pl
end
section
namespace Go.Proofs.YtaonlbjdhilioaaDoor.Pl
open Go.RowKit Go.Proofs.YtaonlbjdhilioaaDoorW.PrintWords Go.Proofs.YtaonlbjdhilioaaDoor.C
set_option linter.unusedSimpArgs false
set_option linter.unusedVariables false
theorem SplitR_l0 (s : ByteArray) (hs : s.size < 4294967281) (c : UInt8) : ∀ (rest : List UInt8) (i a : Nat) (out : List ByteArray) (cur : List UInt8), (L s).drop i = rest → a ≤ i → i ≤ s.size → out.length ≤ i →
  ((L s).drop a).take (i - a) = cur → Ev (fun k => zh.l0 k s (c.toNat : Int) out a i) (out ++ ((cur ++ (pieces c rest).headD []) :: (pieces c rest).tail).map S)
 | [], i, a, out, cur, h, ha, hi, ho, hcur => by
  have hn := at_nil h
  have he : s.extract (a : Int).toNat (i : Int).toNat = S cur := L_inj (by rw [L_extract, L_S]; exact hcur)
  refine Ev.step (fun k => by rw [zh.l0]) ?_
  refine Ev.pos (by omega) (Ev.pos (by omega) (Ev.pos (by omega) (Ev.pos (by omega) (Ev.pos (by omega) ?_))))
  rw [he, w64 (n := (i : Int) + 1) (by omega) (by omega)]
  refine Ev.step (fun k => by rw [zh.l0]) ?_
  refine Ev.neg (by omega) ((Ev.now _).to ?_)
  simp [pieces]
 | b :: t, i, a, out, cur, h, ha, hi, ho, hcur => by
  obtain ⟨hl, hb, ht⟩ := xz h
  have he : s.extract (a : Int).toNat (i : Int).toNat = S cur := L_inj (by rw [L_extract, L_S]; exact hcur)
  refine Ev.step (fun k => by rw [zh.l0]) ?_
  refine Ev.pos (by omega) (Ev.neg (by omega) (Ev.pos (by omega) (Ev.pos (by omega) ?_)))
  rw [hb]
  by_cases hc : b = c
  ·subst hc
   refine Ev.pos rfl (Ev.pos (by omega) (Ev.pos (by omega) (Ev.pos (by omega) ?_)))
   rw [he, w64 (n := (i : Int) + 1) (by omega) (by omega)]
   have ih := SplitR_l0 s hs b t (i + 1) (i + 1) (out ++ [S cur]) [] ht (by omega) (by omega) (by simp; omega) (by simp)
   refine ih.to ?_
   rw [List.nil_append, pieces_eta]
   have ep : pieces b (b :: t) = [] :: pieces b t := by rw [pieces, if_pos rfl]
   rw [ep]
   simp
  ·have hc' : ¬ (b.toNat : Int) = c.toNat := fun e => hc (UInt8.toNat_inj.1 (by omega))
   refine Ev.neg hc' ?_
   rw [w64 (n := (i : Int) + 1) (by omega) (by omega)]
   have hcur' : ((L s).drop a).take (i + 1 - a) = cur ++ [b] := by
    have e3 : i + 1 - a = (i - a) + 1 := by omega
    rw [e3, List.take_add_one, hcur]
    have : ((L s).drop a)[i - a]? = some b := by
     rw [List.getElem?_drop, show a + (i - a) = i by omega]
     have := congrArg (fun l => l[0]?) h
     simpa [List.getElem?_drop] using this
    rw [this]; rfl
   have ih := SplitR_l0 s hs c t (i + 1) a out (cur ++ [b]) ht (by omega) (by omega) (by omega) hcur'
   refine ih.to ?_
   have ep : pieces c (b :: t) = (b :: (pieces c t).headD []) :: (pieces c t).tail := by rw [pieces, if_neg hc]
   rw [ep]
   simp
theorem SplitR_f (s : ByteArray) (hs : s.size < 4294967281) (c : UInt8) : Ev (fun k => zh.f k s (c.toNat : Int)) ((pieces c (L s)).map S) := by
 refine (SplitR_l0 s hs c (L s) 0 0 [] [] rfl (by omega) (by omega) (by simp) (by simp)).to ?_
 rw [List.nil_append, List.nil_append, pieces_eta]
def flat : List (List UInt8 × List UInt8) → List ByteArray
 | [] => []
 | p :: ps => S p.1 :: S p.2 :: flat ps
theorem short_f : kv.f = some (flat words) := rfl
section
variable (x7 : List S26) (x22 : List ByteArray) (x23 x24 : Int) (x29 : List ByteArray) (x30 x31 : Int) (n : List (List S26)) (r : List (List S26) × Int)
def Goes : Option S26 → Prop
 | none => r = ([], 32)
 | some a => Ev (fun k => if x7.length < 3518437208883 then qi.l1 k (x7 ++ [a]) x22 x23 x24 x29 x30 (wrap64 (x31 + 1)) n else none) r
theorem pr_j6 (id v : ByteArray) (kd : Int) (h : Goes x7 x22 x23 x24 x29 x30 x31 n r (some ⟨id, if L id = domain ∨ L id = mail then 22 else kd, v⟩)) :
  Ev (fun k => qi.j6 k x7 x22 x23 x24 x29 x30 x31 n id kd v) r := by
 refine Ev.step (fun k => by rw [qi.j6]) ?_
 by_cases hd : L id = domain
 ·rw [if_pos (Or.inl hd)] at h
  exact Ev.pos (by rw [xy]; exact hd) h
 refine Ev.neg (by rw [xy]; exact hd) ?_
 by_cases hm : L id = mail
 ·rw [if_pos (Or.inr hm)] at h
  exact Ev.pos (by rw [xy]; exact hm) h
 ·rw [if_neg (fun h => h.elim hd hm)] at h
  exact Ev.neg (by rw [xy]; exact hm) h
theorem pr_j5 (id v z : ByteArray) (hv : v.size < 4294967281) (h : Goes x7 x22 x23 x24 x29 x30 x31 n r (some ⟨id, kindOf (L id) v, v⟩)) :
  Ev (fun k => qi.j5 k x7 v x22 x23 x24 x29 x30 x31 false n id 12 z) r := by
 refine Ev.step (fun k => by rw [qi.j5]) (Ev.neg (by decide) (Ev.bind (ValidText_f 19 v hv) ?_))
 by_cases ht : okText 19 v = true
 ·refine Ev.pos ht (pr_j6 x7 x22 x23 x24 x29 x30 x31 n r id v 19 ?_)
  unfold kindOf at h
  rw [if_pos ht] at h
  exact h
 ·refine Ev.neg ht (pr_j6 x7 x22 x23 x24 x29 x30 x31 n r id v 12 ?_)
  unfold kindOf at h
  rw [if_neg ht] at h
  exact h
theorem pr_j5t (id v z : ByteArray) (kd : Int) (h : r = ([], 32)) : Ev (fun k => qi.j5 k x7 v x22 x23 x24 x29 x30 x31 true n id kd z) r := by
 rw [h]
 refine Ev.step (fun k => by rw [qi.j5]) ?_
 exact Ev.pos rfl (Ev.now _)
theorem pr_l3 (w : ByteArray) (hw : w.size < 1000000000) (i : Nat) (hi : i < w.size) : ∀ (ps : List (List UInt8 × List UInt8)) (j : Nat) (id : ByteArray), (flat words).drop j = flat ps → j ≤ 14 → id.size < 1000000000 → (∀ p ∈ ps, p.2.length ≤ 26) →
  Goes x7 x22 x23 x24 x29 x30 x31 n r (restOf (wordR (L id) ps) (unesc ((L w).drop (i + 1)))) →
  Ev (fun k => qi.l3 k x7 w i (flat words) j x22 x23 x24 x29 x30 x31 n id 12 ⟨#[]⟩) r
 | [], j, id, h, hj, hid, hps, hG => by
  have hn : (flat words).length ≤ j := list_nil h
  have he : L (w.extract ((i + 1 : Nat) : Int).toNat w.size) = (L w).drop (i + 1) := by
   rw [L_extract]
   exact List.take_of_length_le (by rw [List.length_drop, ← ja]; exact Nat.le_refl _)
  have hes : (w.extract ((i + 1 : Nat) : Int).toNat w.size).size < 1000000000 := by rw [ja, he, List.length_drop, ← ja]; omega
  refine Ev.step (fun k => by rw [qi.l3]) ?_
  rw [w64 (n := (i : Int) + 1) (by omega) (by omega)]
  refine Ev.neg (by omega) (Ev.pos (by omega) (Ev.pos (by omega) ?_))
  refine Ev.bind (Unescape_both (w.extract ((i + 1 : Nat) : Int).toNat w.size) hes).2 ?_
  rw [he]
  rw [wordR] at hG
  cases hu : unesc ((L w).drop (i + 1)) with
  | none =>
   rw [hu] at hG
   exact Ev.neg Bool.false_ne_true (pr_j5t x7 x22 x23 x24 x29 x30 x31 n r id _ _ 12 hG)
  | some v =>
   have hv := unesc_size _ _ hu
   rw [List.length_drop, ← ja] at hv
   rw [hu] at hG
   refine Ev.pos rfl (Ev.bind (ValidOID_f id (by omega)) ?_)
   simp only [restOf] at hG
   cases ho : okOid (L id) with
   | true =>
    rw [ho, if_pos rfl, S_L] at hG
    exact pr_j5 x7 x22 x23 x24 x29 x30 x31 n r id (S v) _ (by rw [jh]; omega) hG
   | false =>
    rw [ho, if_neg Bool.false_ne_true] at hG
    exact pr_j5t x7 x22 x23 x24 x29 x30 x31 n r id _ _ 12 hG
 | p :: ps, j, id, h, hj, hid, hps, hG => by
  rw [flat] at h
  obtain ⟨hl, h1, ht⟩ := kz (d := ByteArray.empty) h
  obtain ⟨hl2, h2, ht2⟩ := kz (d := ByteArray.empty) ht
  have hlen : (flat words).length = 14 := rfl
  have r1 : rdOf ByteArray.empty (flat words) j = S p.1 := h1
  have r2 : rdOf ByteArray.empty (flat words) ((j + 1 : Nat) : Int) = S p.2 := h2
  have hp2 := hps p (List.mem_cons_self ..)
  refine Ev.step (fun k => by rw [qi.l3]) ?_
  rw [r1, w64 (n := (j : Int) + 1) (by omega) (by omega), w64 (n := (j : Int) + 2) (by omega) (by omega)]
  refine Ev.pos (by omega) (Ev.pos (by omega) ?_)
  rw [wordR] at hG
  by_cases hc : p.1 = L id
  ·rw [if_pos hc] at hG
   refine Ev.pos (by rw [xy, xy]; exact hc) (Ev.pos (by omega) (Ev.pos (by omega) ?_))
   have r2' : rdOf ByteArray.empty (flat words) ((j : Int) + 1) = S p.2 := r2
   rw [r2']
   exact pr_l3 w hw i hi ps (j + 2) (S p.2) ht2 (by omega) (by rw [jh]; omega) (fun q hq => hps q (List.mem_cons_of_mem _ hq)) hG
  ·rw [if_neg hc] at hG
   refine Ev.neg (by rw [xy, xy]; exact hc) ?_
   exact pr_l3 w hw i hi ps (j + 2) id ht2 (by omega) hid (fun q hq => hps q (List.mem_cons_of_mem _ hq)) hG
theorem pr_j3 (w : ByteArray) (hw : w.size < 1000000000) (hG : Goes x7 x22 x23 x24 x29 x30 x31 n r (attrOf (L w))) :
  Ev (fun k => qi.j3 k x7 w ((before 61 (L w)).length : Int) x22 x23 x24 x29 x30 x31 n) r := by
 have hb := jg 61 (L w)
 have hsz := ja w
 unfold attrOf at hG
 refine Ev.step (fun k => by rw [qi.j3]) ?_
 by_cases hc : (before 61 (L w)).length = (L w).length
 ·rw [if_pos hc] at hG
  have hG : r = ([], 32) := hG
  rw [hG]
  exact Ev.pos (by omega) (Ev.now _)
 ·rw [if_neg hc, attrRest_eq] at hG
  refine Ev.neg (by omega) (Ev.pos (by omega) (Ev.pos (by omega) (Ev.bnd short_f ?_)))
  have he : w.extract 0 (((before 61 (L w)).length : Nat) : Int).toNat = S (before 61 (L w)) := L_inj (by
   rw [L_extract, L_S]
   exact before_take 61 (L w))
  rw [he]
  refine pr_l3 x7 x22 x23 x24 x29 x30 x31 n r w hw _ (by omega) words 0 (S (before 61 (L w))) rfl (by omega) (by rw [jh]; omega) (by decide) ?_
  rw [L_S, words_eq]
  exact hG
theorem pr_l2 (w : ByteArray) (hw : w.size < 1000000000) (hG : Goes x7 x22 x23 x24 x29 x30 x31 n r (attrOf (L w))) : ∀ (rest : List UInt8) (i : Nat), (L w).drop i = rest → i + (before 61 rest).length = (before 61 (L w)).length → i ≤ w.size →
  Ev (fun k => qi.l2 k x7 w i x22 x23 x24 x29 x30 x31 n) r
 | [], i, h, hb, hi => by
  have hn := at_nil h
  have j := pr_j3 x7 x22 x23 x24 x29 x30 x31 n r w hw hG
  have e : (before 61 (L w)).length = i := by rw [← hb]; simp [before]
  rw [e] at j
  refine Ev.step (fun k => by rw [qi.l2]) ?_
  exact Ev.neg (by omega) j
 | c :: t, i, h, hb, hi => by
  obtain ⟨hl, hbt, ht⟩ := xz h
  refine Ev.step (fun k => by rw [qi.l2]) ?_
  rw [hbt]
  refine Ev.pos (by omega) (Ev.pos (by omega) ?_)
  by_cases hc : c = 61
  ·subst hc
   have j := pr_j3 x7 x22 x23 x24 x29 x30 x31 n r w hw hG
   have e : (before 61 (L w)).length = i := by rw [← hb, before_cons_eq]; rfl
   rw [e] at j
   exact Ev.pos rfl j
  ·have hc' : ¬ (c.toNat : Int) = 61 := fun e => hc (UInt8.toNat_inj.1 (by simpa using (by omega : c.toNat = 61)))
   refine Ev.neg hc' ?_
   rw [w64 (n := (i : Int) + 1) (by omega) (by omega)]
   rw [before_cons_ne t hc] at hb
   exact pr_l2 w hw hG t (i + 1) ht (by rw [← hb]; simp only [List.length_cons]; omega) (by omega)
end
theorem ParseR_l1 (x22 : List ByteArray) (x23 x24 : Int) (n : List (List S26)) (ws : List (List UInt8)) (hws : ws.length < 1000000000) (hw : ∀ w ∈ ws, w.length < 1000000000) (r : List (List S26) × Int) : ∀ (rest : List (List UInt8)) (i : Nat) (acc : List S26), ws.drop i = rest → acc.length = i → i ≤ ws.length →
  (match allAttrs rest with | none => r = ([], 32) | some l => Ev (fun k => if n.length < 5864062014805 then qi.l0 k x22 x23 (wrap64 (x24 + 1)) (n ++ [acc ++ l]) else none) r) →
  Ev (fun k => qi.l1 k acc x22 x23 x24 (ws.map S) (ws.length : Int) i n) r
 | [], i, acc, h, ha, hi, hr => by
  have hn := list_nil h
  simp only [allAttrs, List.append_nil] at hr
  refine Ev.step (fun k => by rw [qi.l1]) ?_
  exact Ev.neg (by omega) hr
 | w :: t, i, acc, h, ha, hi, hr => by
  obtain ⟨hli, _, ht⟩ := kz (d := ([] : List UInt8)) h
  have hww := hw w (List.mem_of_mem_drop (i := i) (by rw [h]; exact List.mem_cons_self ..))
  refine Ev.step (fun k => by rw [qi.l1]) ?_
  rw [rdS h]
  refine Ev.pos (by omega) (Ev.pos (by omega) (Ev.pos (by rw [List.length_map]; omega) ?_))
  refine pr_l2 acc x22 x23 x24 (ws.map S) (ws.length : Int) i n r (S w) (by rw [jh]; omega) ?_ (L (S w)) 0 rfl (by omega) (by omega)
  rw [L_S]
  simp only [allAttrs] at hr
  cases hA : attrOf w with
  | none =>
   simp only [hA] at hr
   exact hr
  | some a =>
   refine Ev.pos (by omega) ?_
   rw [w64 (n := (i : Int) + 1) (by omega) (by omega)]
   refine ParseR_l1 x22 x23 x24 n ws hws hw r t (i + 1) (acc ++ [a]) ht (by simp [ha]) (by omega) ?_
   simp only [hA] at hr
   cases hB : allAttrs t with
   | none => simp only [hB] at hr ⊢; exact hr
   | some l =>
    simp only [hB] at hr ⊢
    rw [List.append_assoc, List.singleton_append]
    exact hr
theorem ParseR_l0 (ps : List (List UInt8)) (hps : ps.length < 1000000000) (hp : ∀ p ∈ ps, p.length < 999999999) (n0 : Option (List (List S26))) (hn0 : allRels ps = n0) : ∀ (rest : List (List UInt8)) (i : Nat) (n : List (List S26)), ps.drop i = rest → n.length = i → i ≤ ps.length →
  (match allRels rest with | none => n0 = none | some m => n0 = some (n ++ m)) →
  Ev (fun k => qi.l0 k (ps.map S) (ps.length : Int) i n) (nameZ n0)
 | [], i, n, h, hl, hi, hr => by
  have hn := list_nil h
  simp only [allRels, List.append_nil] at hr
  subst hr
  refine Ev.step (fun k => by rw [qi.l0]) ?_
  refine Ev.neg (by omega) (Ev.bind (CheckName_f n (allRels_fit ps n (fun p hp' => by have := hp p hp'; omega) hn0)) ?_)
  unfold nameZ
  by_cases h0 : nameErr n = 0
  ·simp only [if_pos h0]
   exact Ev.now _
  ·simp only [if_neg h0]
   exact Ev.now _
 | p :: t, i, n, h, hl, hi, hr => by
  obtain ⟨hli, _, ht⟩ := kz (d := ([] : List UInt8)) h
  have hpp := hp p (List.mem_of_mem_drop (i := i) (by rw [h]; exact List.mem_cons_self ..))
  refine Ev.step (fun k => by rw [qi.l0]) ?_
  rw [rdS h]
  refine Ev.pos (by omega) (Ev.pos (by omega) (Ev.pos (by rw [List.length_map]; omega) (Ev.bind (SplitR_f (S p) (by rw [jh]; omega) 43) ?_)))
  rw [L_S, List.length_map]
  have hpl := jl 43 p
  refine ParseR_l1 _ _ _ n (pieces 43 p) (by omega) (fun w hw => by have := pieces_size 43 p w hw; omega) _ (pieces 43 p) 0 [] rfl rfl (by omega) ?_
  simp only [allRels] at hr
  cases hA : allAttrs (pieces 43 p) with
  | none =>
   simp only [hA] at hr
   simp only
   rw [hr]
   rfl
  | some l =>
   simp only [List.nil_append]
   refine Ev.pos (by omega) ?_
   rw [w64 (n := (i : Int) + 1) (by omega) (by omega)]
   refine ParseR_l0 ps hps hp n0 hn0 t (i + 1) (n ++ [l]) ht (by simp [hl]) (by omega) ?_
   simp only [hA] at hr
   cases hB : allRels t with
   | none => simp only [hB] at hr ⊢; exact hr
   | some m =>
    simp only [hB] at hr ⊢
    rw [List.append_assoc, List.singleton_append]
    exact hr
theorem ParseName_f (s : ByteArray) (hs : s.size < 999999990) : Ev (fun k => qi.f k s) (parseOf (L s)) := by
 unfold qi.f parseOf
 by_cases h0 : L s = []
 ·rw [if_pos h0]
  exact Ev.pos (by rw [xy]; exact h0) (Ev.now _)
 rw [if_neg h0]
 refine Ev.neg (by rw [xy]; exact h0) (Ev.bind (SplitR_f s (by omega) 44) ?_)
 rw [List.length_map]
 have hl := jl 44 (L s)
 have hsz := ja s
 refine ParseR_l0 (pieces 44 (L s)) (by omega) (fun p hp => by have := pieces_size 44 (L s) p hp; omega) _ rfl (pieces 44 (L s)) 0 [] rfl rfl (by omega) ?_
 cases hB : allRels (pieces 44 (L s)) with
 | none => rfl
 | some m => rfl
end Go.Proofs.YtaonlbjdhilioaaDoor.Pl
end
section
namespace Go.Proofs.YtaonlbjdhilioaaDoor.Pl
open Go.RowKit Go.Proofs.YtaonlbjdhilioaaDoorW.PrintWords Go.Proofs.YtaonlbjdhilioaaDoor.C
set_option linter.unusedSimpArgs false
set_option linter.unusedVariables false
set_option maxRecDepth 100000
theorem Exact_l0 (n : List (List S26)) (hn : n.length < 1000000000) (hl : ∀ l ∈ n, l.length < 1000000000) : ∀ (d i : Nat), i + d = n.length → Ev (fun k => zc.l0 k (n.length : Int) i n n) true
 | 0, i, h => by
  refine Ev.step (fun k => by rw [zc.l0]) ?_
  exact Ev.neg (by omega) (Ev.now _)
 | d + 1, i, h => by
  have hi : i < n.length := by omega
  have hd : n.drop i = n[i] :: n.drop (i + 1) := List.drop_eq_getElem_cons hi
  have hli := hl n[i] (List.getElem_mem hi)
  have inner : ∀ (e j : Nat), j + e = n[i].length → Ev (fun k => zc.l1 k i (n.length : Int) i (n[i].length : Int) j n n) true := by
   intro e
   induction e with
   | zero =>
    intro j hj
    refine Ev.step (fun k => by rw [zc.l1]) ?_
    refine Ev.neg (by omega) ?_
    rw [w64 (n := (i : Int) + 1) (by omega) (by omega)]
    exact Exact_l0 n hn hl d (i + 1) (by omega)
   | succ e ih =>
    intro j hj
    refine Ev.step (fun k => by rw [zc.l1]) ?_
    rw [rdL4 hd]
    refine Ev.pos (by omega) (Ev.pos (by omega) (Ev.pos (by omega) (Ev.pos (by omega) (Ev.pos (by omega) (Ev.pos (by omega) (Ev.pos (by omega) ?_))))))
    refine Ev.neg (by simp) ?_
    rw [w64 (n := (j : Int) + 1) (by omega) (by omega)]
    exact ih (j + 1) (by omega)
  refine Ev.step (fun k => by rw [zc.l0]) ?_
  rw [rdL4 hd]
  refine Ev.pos (by omega) (Ev.pos (by omega) (Ev.pos (by omega) (Ev.pos (by omega) (Ev.pos rfl ?_))))
  exact inner n[i].length 0 (by omega)
theorem ExactName_f (n : List (List S26)) (hn : n.length < 1000000000) (hl : ∀ l ∈ n, l.length < 1000000000) : Ev (fun k => zc.f k n n) true := by
 unfold zc.f
 exact Ev.pos rfl (Exact_l0 n hn hl n.length 0 (by omega))
theorem allAttrs_length : ∀ (ws : List (List UInt8)) (l : List S26), allAttrs ws = some l → l.length = ws.length
 | [], l, h => by unfold allAttrs at h; cases h; rfl
 | w :: r, l, h => by
  unfold allAttrs at h
  split at h
  ·rename_i a l' h1 h2
   cases h
   have := allAttrs_length r l' h2
   simp [this]
  ·cases h
theorem allRels_length : ∀ (ps : List (List UInt8)) (n : List (List S26)) (B : Nat), (∀ p ∈ ps, p.length < B) → allRels ps = some n → n.length = ps.length ∧ ∀ l ∈ n, l.length ≤ B
 | [], n, B, _, h => by
  unfold allRels at h
  cases h
  exact ⟨rfl, fun l hl => by cases hl⟩
 | p :: r, n, B, hB, h => by
  unfold allRels at h
  split at h
  ·rename_i l n' h1 h2
   cases h
   obtain ⟨e1, e2⟩ := allRels_length r n' B (fun q hq => hB q (List.mem_cons_of_mem _ hq)) h2
   refine ⟨by simp [e1], fun x hx => ?_⟩
   rcases List.mem_cons.1 hx with rfl | hx
   ·have := allAttrs_length _ _ h1
    have := jl 43 p
    have := hB p (List.mem_cons_self ..)
    omega
   ·exact e2 x hx
  ·cases h
theorem parseOf_fit (s : List UInt8) (hs : s.length < 100000000) : (parseOf s).1.length < 1000000000 ∧ ∀ l ∈ (parseOf s).1, l.length < 1000000000 := by
 unfold parseOf
 split
 ·exact ⟨by decide, fun l hl => by cases hl⟩
 ·cases hA : allRels (pieces 44 s) with
  | none => exact ⟨by decide, fun l hl => by cases hl⟩
  | some n =>
   obtain ⟨e1, e2⟩ := allRels_length (pieces 44 s) n (s.length + 1) (fun p hp => by have := pieces_size 44 s p hp; omega) hA
   have := jl 44 s
   unfold nameZ
   simp only
   split
   ·exact ⟨by simp only; omega, fun l hl => by have := e2 l hl; omega⟩
   ·exact ⟨by simp, fun l hl => by cases hl⟩
theorem awake : Ev (fun k => zx.f k) true := Ev.of (fun k => zx.mono k) (show zx.f 60 = some true by kernel_rfl)
theorem np_l1 (xs : List ByteArray) (hx : xs.length < 1000000) (hs : ∀ x ∈ xs, x.size < 1000000) : ∀ (d i : Nat), i + d = xs.length → Ev (fun k => qw.l1 k xs (xs.length : Int) i) true
 | 0, i, h => by
  refine Ev.step (fun k => by rw [qw.l1]) ?_
  refine Ev.neg (by omega) ?_
  exact Ev.bind (f := fun _ t => some t) awake (Ev.now _)
 | d + 1, i, h => by
  have hi : i < xs.length := by omega
  have hd : xs.drop i = xs[i] :: xs.drop (i + 1) := List.drop_eq_getElem_cons hi
  have hr : rdOf ByteArray.empty xs i = xs[i] := (kz (d := ByteArray.empty) hd).2.1
  have hsi := hs xs[i] (List.getElem_mem hi)
  refine Ev.step (fun k => by rw [qw.l1]) ?_
  rw [hr]
  refine Ev.pos (by omega) (Ev.pos (by omega) (Ev.pos (by omega) ?_))
  refine Ev.bind (Parse_f xs[i] (by omega)) (Ev.bind (ParseName_f xs[i] (by omega)) ?_)
  have hf := parseOf_fit (L xs[i]) (by rw [← ja]; omega)
  refine Ev.bind (ExactName_f _ hf.1 hf.2) (Ev.pos rfl (Ev.pos rfl ?_))
  rw [w64 (n := (i : Int) + 1) (by omega) (by omega)]
  exact np_l1 xs hx hs d (i + 1) (by omega)
theorem np_j1 (x0 x5 : ByteArray) (h0 : x0.size ≤ 200) (h5 : x5.size ≤ 400) : Ev (fun k => qw.j1 k x0 x5) true := by
 refine Ev.step (fun k => by rw [qw.j1]) ?_
 refine Ev.pos (by omega) (Ev.bnd rfl ?_)
 refine np_l1 [x0, x5, (⟨#[79, 61, 120, 44]⟩ : ByteArray) ++ x5] (by simp) ?_ 3 0 rfl
 intro x hx
 have e4 : (⟨#[79, 61, 120, 44]⟩ : ByteArray).size = 4 := rfl
 rcases List.mem_cons.1 hx with rfl | hx
 ·omega
 rcases List.mem_cons.1 hx with rfl | hx
 ·omega
 ·rw [List.mem_singleton.1 hx, ByteArray.size_append, e4]
  omega
def bits : List ByteArray := [(⟨#[67, 78, 61]⟩ : ByteArray), (⟨#[79, 61]⟩ : ByteArray), (⟨#[68, 67, 61]⟩ : ByteArray), (⟨#[69, 61]⟩ : ByteArray), (⟨#[50, 46, 53, 46, 52, 46, 51, 61]⟩ : ByteArray), (⟨#[50, 46, 53, 46, 52, 46, 57, 57, 61]⟩ : ByteArray), (⟨#[49, 46, 52, 48, 61]⟩ : ByteArray), (⟨#[99, 110, 61]⟩ : ByteArray), (⟨#[44]⟩ : ByteArray), (⟨#[44]⟩ : ByteArray), (⟨#[43]⟩ : ByteArray), (⟨#[97]⟩ : ByteArray), (⟨#[65, 110, 110]⟩ : ByteArray), (⟨#[32]⟩ : ByteArray), (⟨#[92, 50, 99]⟩ : ByteArray), (⟨#[92, 50, 67]⟩ : ByteArray), (⟨#[195, 169]⟩ : ByteArray), (⟨#[92, 99, 51, 92, 97, 57]⟩ : ByteArray), (⟨#[61]⟩ : ByteArray), (⟨#[79, 85, 61, 120]⟩ : ByteArray), (⟨#[67, 61, 85, 83]⟩ : ByteArray)]
theorem bits_length : bits.length = 21 := rfl
theorem bits_size (i : Int) : (rdOf ByteArray.empty bits i).size ≤ 10 := by
 unfold rdOf
 rw [List.getD_eq_getElem?_getD]
 cases h : bits[i.toNat]? with
 | none => exact Nat.zero_le _
 | some x =>
  have hm : x ∈ bits := List.mem_of_getElem? h
  exact (by decide : ∀ x ∈ bits, x.size ≤ 10) x hm
theorem np_l0 (x0 : ByteArray) (h0 : x0.size ≤ 200) (l : List Int) (hw : ∀ x ∈ l, (Lit.int .u8 x).wf = true) (hl : l.length ≤ maxLen) : ∀ (d i : Nat) (x5 : ByteArray), i + d = 31 → x5.size ≤ 10 * i → Ev (fun k => qw.l0 k x0 l x5 i) true
 | 0, i, x5, h, hx => by
  have j := np_j1 x0 x5 h0 (by omega)
  refine Ev.step (fun k => by rw [qw.l0]) ?_
  by_cases hc : (i : Int) < (l.length : Int)
  ·exact Ev.pos hc (Ev.neg (by omega) j)
  ·exact Ev.neg hc j
 | d + 1, i, x5, h, hx => by
  refine Ev.step (fun k => by rw [qw.l0]) ?_
  by_cases h30 : 30 ≤ i
  ·have j := np_j1 x0 x5 h0 (by omega)
   by_cases hc : (i : Int) < (l.length : Int)
   ·exact Ev.pos hc (Ev.neg (by omega) j)
   ·exact Ev.neg hc j
  by_cases hc : (i : Int) < (l.length : Int)
  case neg => exact Ev.neg hc (np_j1 x0 x5 h0 (by omega))
  refine Ev.pos hc (Ev.pos (by omega) (Ev.bnd (a := bits) rfl ?_))
  have hr : 0 ≤ rd l i := by
   unfold rd
   have hil : (i : Int).toNat < l.length := by omega
   rw [List.getD_eq_getElem?_getD, List.getElem?_eq_getElem hil]
   have := hw _ (List.getElem_mem hil)
   simp [Lit.wf, IntKind.bits, IntKind.signed, IntKind.min, IntKind.max] at this
   exact this.1
  have hm0 : 0 ≤ Int.tmod (rd l i) 21 := Int.tmod_nonneg 21 hr
  have hm1 : Int.tmod (rd l i) 21 < 21 := Int.tmod_lt_of_pos (rd l i) (by omega)
  have hb := bits_size (Int.tmod (rd l i) 21)
  rw [bits_length]
  refine Ev.pos (by omega) (Ev.pos hm0 (Ev.pos hm1 (Ev.pos (by omega) ?_)))
  rw [w64 (n := (i : Int) + 1) (by omega) (by omega)]
  exact np_l0 x0 h0 l hw hl d (i + 1) _ (by omega) (by rw [ByteArray.size_append]; omega)
theorem NameParse_ev : qw.Pure := by
 intro a0 l1 h0 h1 h2 h3
 refine Ev.rounds (g := fun k => qw.f k a0 l1) ?_
 unfold qw.f
 by_cases hc : (a0.size : Int) > 200
 ·exact Ev.pos hc (Ev.bind (f := fun _ t => some t) awake (Ev.now _))
 ·exact Ev.neg hc (np_l0 a0 (by omega) l1 h3 h1 31 0 _ (by omega) (by decide))
end Go.Proofs.YtaonlbjdhilioaaDoor.Pl
namespace Go.Proofs.YtaonlbjdhilioaaDoor.Pure
open Go.Proofs.YtaonlbjdhilioaaDoor.C
theorem NameParse : qw.Pure := Pl.NameParse_ev
end Go.Proofs.YtaonlbjdhilioaaDoor.Pure
end
section
namespace Go.Proofs.YtaonlbjdhilioaaDoorW.PrintWords
open Go.ChangeShapes Go.WideShapes
theorem sized_ints {H : Type} {enc : TypeId × Value → H} {P : Program} {W : World} {base : Nat} {spare : Nat → Bool} {held : Bool} {t e : TypeId} {k : IntKind} {a : Option Addr} {len cap : Nat} {d : DataW H} {ps : List MemPlace} {ts : List TypeId} {ds : List (DataW H)} {j : Nat}
  (hsz : (DataW.weightsEach P ts ds).all (· ≤ reachBytes) = true) (ht : ts[j]? = some t) (hd : ds[j]? = some d) (hu : P.underlying t = some (.slice e)) (he : P.underlying e = some (.int k)) (hc : P.cellsOf e = 1) {B : Nat} (hB : P.bytesOf e = B)
  (h : DataW.Trod enc P W base spare held t (.slice a len cap) d ps) : len * B ≤ 140737488351232 := by
 obtain ⟨fuel, hf⟩ := h
 rcases open_ints hu he hc hf with ⟨hcs, _⟩ | ⟨x, l, c, zs, hcs, _, hl, _, hz, hx, _, _⟩
 ·simp [Value.cells] at hcs
  obtain ⟨rfl, rfl, rfl⟩ := hcs
  simp
 ·simp [Value.cells] at hcs
  obtain ⟨rfl, rfl, rfl⟩ := hcs
  obtain ⟨hx, _⟩ := Prod.mk.inj hx
  subst hx
  have z := sized_slice hsz ht hd hu
  rw [hB] at z
  have hl2 : len ≤ zs.length := by
   rw [hz]
   split
   ·exact hl
   ·exact Nat.le_refl _
  have h1 : (lits (H := H) k (zs.take len)).length + (lits (H := H) k (zs.drop len)).length = zs.length := by
   simp [lits]
   omega
  rw [h1] at z
  exact Nat.le_trans (Nat.mul_le_mul_right _ hl2) z
end Go.Proofs.YtaonlbjdhilioaaDoorW.PrintWords
end
