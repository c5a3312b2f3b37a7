/- Closers that the proofs of the claim have in common. -/
import Derived.Below
import Derived.Deep.Draws
import Derived.Deep.AppendLies
import Derived.Maps.AppendAt
import Derived.OwnWalk
import Derived.Laws.BytesArg
import Derived.Laws.MakeOwn
import Derived.Laws.OwnMore
import Derived.Deep.OwnRows
import Derived.Tactics
import Derived.Lib.ConvBytes
import Derived.Laws.Slices
import Derived.WalkKit
import Derived.KernelRfl
import Derived.RowKit3
import Derived.Deep.LoopGhost
import Derived.Deep.QuietTactic
import Derived.BigQuiet
import Derived.WideLaws
import Derived.Deep.DeepCutAuto
import Derived.Deep.CutBlock
import Derived.Deep.RegionHeld3
import Derived.Laws.Rows
import Derived.Lib.AppendStr
import Derived.ArgAppend
import Derived.Laws.IdiomCopy
import Derived.RowKit
import Derived.Lib.SplitLaws
import Derived.OrdersHeld
import Derived.Laws.BitsLemmas
set_option linter.unusedVariables false
namespace Go.Proofs
theorem cu {p : Prop} (h : p := by repeat (first | (with_reducible first | exact HB.out | apply qb | apply qa | apply qc) | exact HB.out)) : p := h
theorem cz {p : Prop} (h : p := by (try simp only [List.map_toArray, List.map_cons, List.map_nil]); first | done | rfl | (simp only [List.length_drop, List.length_take]; rfl)) : p := h
theorem yc {p : Prop} (h : p := by first | (with_reducible assumption) | assumption) : p := h
theorem yf {p : Prop} (h : p := by first | rfl | (simp; done) | (simp [*]; done)) : p := h
theorem yg {p : Prop} (h : p := by kernel_rfl) : p := h
theorem yh {p : Prop} (h : p := by (with_reducible repeat (first | refine qm ?_ _ | refine qn ?_ | refine ql ?_ _)); exact BK179.out) : p := h
theorem yj {p : Prop} (h : p := by repeat (first | (with_reducible first | exact HB.out | apply qb | apply qa | apply qc | refine qh ?_ GE179.out | refine qh ?_ GE180.out) | exact HB.out)) : p := h
theorem yl {p : Prop} (h : p := by repeat (first | (with_reducible first | exact HB.out | apply qb | apply qa | apply qc | refine qh ?_ GE241.out) | exact HB.out)) : p := h
theorem ym {p : Prop} (h : p := by repeat (first | (with_reducible first | exact HB.out | apply qb | apply qa | apply qc | refine qh ?_ GE179.out) | exact HB.out)) : p := h
theorem yn {p : Prop} (h : p := by (with_reducible repeat (first | refine qm ?_ _ | refine qn ?_ | refine ql ?_ _)); exact BK241.out) : p := h
theorem yo {p : Prop} (h : p := by omega) : p := h
theorem yt {p : Prop} (h : p := by repeat (first | (with_reducible first | exact HB.out | apply qb | apply qa | apply qc | refine qh ?_ GE241.out | refine qh ?_ GE242.out) | exact HB.out)) : p := h
theorem yu {p : Prop} (h : p := by repeat (first | (with_reducible first | exact HB.out | apply qb | apply qa | apply qc | refine qh ?_ GE163.out) | exact HB.out)) : p := h
theorem yw {p : Prop} (h : p := by (with_reducible repeat (first | refine qm ?_ _ | refine qn ?_ | refine ql ?_ _)); exact BK180.out) : p := h
theorem yx {p : Prop} (h : p := by (with_reducible repeat (first | refine qm ?_ _ | refine qn ?_ | refine ql ?_ _)); exact BK163.out) : p := h
theorem yz {p : Prop} (h : p := by (with_reducible repeat (first | refine qm ?_ _ | refine qn ?_ | refine ql ?_ _)); exact BK171.out) : p := h
theorem y7 {p : Prop} (h : p := by simp) : p := h
theorem y8 {p : Prop} (h : p := by repeat (first | (with_reducible first | exact HB.out | apply qb | apply qa | apply qc | refine qh ?_ GE176.out) | exact HB.out)) : p := h
theorem y9 {p : Prop} (h : p := by repeat (first | (with_reducible first | exact HB.out | apply qb | apply qa | apply qc | refine qh ?_ GE171.out) | exact HB.out)) : p := h
theorem uf {p : Prop} (h : p := by (with_reducible repeat (first | refine qm ?_ _ | refine qn ?_ | refine ql ?_ _)); exact BK176.out) : p := h
theorem ug {p : Prop} (h : p := by (with_reducible repeat (first | apply Kd.zq | apply Kd.zl | apply Kd.zt)); exact HO260.out) : p := h
theorem uh {p : Prop} (h : p := by (with_reducible repeat (first | refine qm ?_ _ | refine qn ?_ | refine ql ?_ _)); refine blk_far ?_ NB163_165.out _; (with_reducible repeat (first | refine qm ?_ _ | refine qn ?_ | refine ql ?_ _)); refine blk_far ?_ NB163_165.out _; (with_reducible repeat (first | refine qm ?_ _ | refine qn ?_ | refine ql ?_ _)); refine blk_far ?_ NB163_165.out _; (with_reducible repeat (first | refine qm ?_ _ | refine qn ?_ | refine ql ?_ _)); exact BK163.out) : p := h
theorem ui {p : Prop} (h : p := by repeat (first | (with_reducible first | exact HK.out | apply KeepBut.set_ | apply kg | apply keep_drew | apply ki | refine keep_far ?_ GW103.out _) | exact HK.out)) : p := h
theorem uj {p : Prop} (h : p := by (with_reducible repeat (first | refine qm ?_ _ | refine qn ?_ | refine ql ?_ _)); exact BK242.out) : p := h
theorem uk {p : Prop} (h : p := by (with_reducible repeat (first | apply Kd.zq | apply Kd.zl | apply Kd.zt)); exact HO_3.out) : p := h
theorem ul {p : Prop} (h : p := by repeat (first | (with_reducible first | exact HK.out | apply KeepBut.set_ | apply kg | apply keep_drew | apply ki) | exact HK.out)) : p := h
theorem um {p : Prop} (h : p := by (with_reducible repeat (first | refine qm ?_ _ | refine qn ?_ | refine ql ?_ _)); exact BK103.out) : p := h
theorem uo {p : Prop} (h : p := by (with_reducible repeat (first | apply Kd.zq | apply Kd.zl | apply Kd.zt)); exact HO281.out) : p := h
theorem uq {p : Prop} (h : p := by (with_reducible repeat (first | apply Kd.zq | apply Kd.zl | apply Kd.zt)); exact HO274.out) : p := h
theorem ut {p : Prop} (h : p := by (with_reducible repeat (first | apply Kd.zq | apply Kd.zl | apply Kd.zt)); exact HO267.out) : p := h
theorem uu {p : Prop} (h : p := by repeat (first | (with_reducible first | exact HB.out | apply qb | apply qa | apply qc | refine qh ?_ GE171.out | refine qh ?_ GE172.out) | exact HB.out)) : p := h
theorem uw {p : Prop} (h : p := by repeat (first | (with_reducible first | exact HB.out | apply qb | apply qa | apply qc | refine qh ?_ GE163.out | refine qh ?_ GE165.out) | exact HB.out)) : p := h
theorem uy {p : Prop} (h : p := by unfold lowC; rw [if_neg yo]) : p := h
end Go.Proofs
