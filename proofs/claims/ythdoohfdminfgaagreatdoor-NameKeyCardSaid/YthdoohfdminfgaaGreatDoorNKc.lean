/- Closers that the proofs of the claim have in common. -/
import Derived.Below
import Derived.Deep.Draws
import Derived.Deep.AppendLies
import Derived.Maps.AppendAt
import Derived.OwnWalk
import Derived.Laws.BytesArg
import Derived.Laws.MakeOwn
import Derived.Laws.OwnMore
import Derived.Deep.OwnRows
import Derived.Tactics
import Derived.Lib.ConvBytes
import Derived.Laws.Slices
import Derived.WalkKit
import Derived.KernelRfl
import Derived.RowKit3
import Derived.Deep.LoopGhost
import Derived.Deep.QuietTactic
import Derived.BigQuiet
import Derived.WideLaws
import Derived.Deep.DeepCutAuto
import Derived.Deep.CutBlock
import Derived.Deep.RegionHeld3
import Derived.Laws.Rows
import Derived.Lib.AppendStr
import Derived.ArgAppend
import Derived.Laws.IdiomCopy
import Derived.RowKit
import Derived.Lib.SplitLaws
set_option linter.unusedVariables false
namespace Go.Proofs
theorem cu {p : Prop} (h : p := by repeat (first | (with_reducible first | exact HB.out | apply qc | apply qb | apply qd) | exact HB.out)) : p := h
theorem cz {p : Prop} (h : p := by first | (with_reducible assumption) | assumption) : p := h
theorem yc {p : Prop} (h : p := by (try simp only [List.map_toArray, List.map_cons, List.map_nil]); first | done | rfl | (simp only [List.length_drop, List.length_take]; rfl)) : p := h
theorem yf {p : Prop} (h : p := by first | rfl | (simp; done) | (simp [*]; done)) : p := h
theorem yg {p : Prop} (h : p := by omega) : p := h
theorem yh {p : Prop} (h : p := by repeat (first | (with_reducible first | exact HB.out | apply qc | apply qb | apply qd | refine qe ?_ GE216.out) | exact HB.out)) : p := h
theorem yj {p : Prop} (h : p := by kernel_rfl) : p := h
theorem yl {p : Prop} (h : p := by repeat (first | (with_reducible first | exact HB.out | apply qc | apply qb | apply qd | refine qe ?_ GE156.out | refine qe ?_ GE157.out) | exact HB.out)) : p := h
theorem ym {p : Prop} (h : p := by repeat (first | (with_reducible first | exact HB.out | apply qc | apply qb | apply qd | refine qe ?_ GE143.out) | exact HB.out)) : p := h
theorem yn {p : Prop} (h : p := by (with_reducible repeat (first | refine qg ?_ _ | refine qi ?_ | refine qf ?_ _)); exact BK156.out) : p := h
theorem yo {p : Prop} (h : p := by (with_reducible repeat (first | refine qg ?_ _ | refine qi ?_ | refine qf ?_ _)); exact BK216.out) : p := h
theorem yt {p : Prop} (h : p := by simp) : p := h
theorem yu {p : Prop} (h : p := by repeat (first | (with_reducible first | exact HB.out | apply qc | apply qb | apply qd | refine qe ?_ GE116.out) | exact HB.out)) : p := h
theorem yw {p : Prop} (h : p := by (with_reducible repeat (first | refine qg ?_ _ | refine qi ?_ | refine qf ?_ _)); exact BK157.out) : p := h
theorem yx {p : Prop} (h : p := by (with_reducible repeat (first | refine qg ?_ _ | refine qi ?_ | refine qf ?_ _)); exact BK143.out) : p := h
theorem yz {p : Prop} (h : p := by (with_reducible repeat (first | apply Kd.zh | apply Kd.zg | apply Kd.zr)); exact HO_4.out) : p := h
theorem uf {p : Prop} (h : p := by repeat (first | (with_reducible first | exact HB.out | apply qc | apply qb | apply qd | refine qe ?_ GE258.out) | exact HB.out)) : p := h
theorem ug {p : Prop} (h : p := by repeat (first | (with_reducible first | exact HB.out | apply qc | apply qb | apply qd | refine qe ?_ GE196.out) | exact HB.out)) : p := h
theorem uh {p : Prop} (h : p := by (with_reducible repeat (first | apply Kd.xg | apply Kd.xh | apply Kd.xv)); exact HO214.out) : p := h
theorem ui {p : Prop} (h : p := by (with_reducible repeat (first | refine qg ?_ _ | refine qi ?_ | refine qf ?_ _)); exact BK258.out) : p := h
theorem uj {p : Prop} (h : p := by (with_reducible repeat (first | refine qg ?_ _ | refine qi ?_ | refine qf ?_ _)); exact BK196.out) : p := h
theorem uk {p : Prop} (h : p := by (with_reducible repeat (first | apply Kd.xg | apply Kd.xh | apply Kd.xv)); exact HO_158000.out) : p := h
theorem ul {p : Prop} (h : p := by (with_reducible repeat (first | apply Kd.zh | apply Kd.zg | apply Kd.zr)); exact HO_17.out) : p := h
theorem um {p : Prop} (h : p := by (with_reducible repeat (first | refine qg ?_ _ | refine qi ?_ | refine qf ?_ _)); exact BK266.out) : p := h
theorem uo {p : Prop} (h : p := by (with_reducible repeat (first | refine qg ?_ _ | refine qi ?_ | refine qf ?_ _)); exact BK204.out) : p := h
theorem uq {p : Prop} (h : p := by repeat (first | (with_reducible first | exact HB.out | apply qc | apply qb | apply qd | refine qe ?_ GE271.out) | exact HB.out)) : p := h
theorem ut {p : Prop} (h : p := by repeat (first | (with_reducible first | exact HB.out | apply qc | apply qb | apply qd | refine qe ?_ GE266.out) | exact HB.out)) : p := h
theorem uu {p : Prop} (h : p := by repeat (first | (with_reducible first | exact HB.out | apply qc | apply qb | apply qd | refine qe ?_ GE240.out) | exact HB.out)) : p := h
theorem uw {p : Prop} (h : p := by repeat (first | (with_reducible first | exact HB.out | apply qc | apply qb | apply qd | refine qe ?_ GE209.out) | exact HB.out)) : p := h
theorem uy {p : Prop} (h : p := by repeat (first | (with_reducible first | exact HB.out | apply qc | apply qb | apply qd | refine qe ?_ GE204.out) | exact HB.out)) : p := h
theorem uz {p : Prop} (h : p := by repeat (first | (with_reducible first | exact HB.out | apply qc | apply qb | apply qd | refine qe ?_ GE156.out) | exact HB.out)) : p := h
theorem fe {p : Prop} (h : p := by (with_reducible repeat (first | refine qg ?_ _ | refine qi ?_ | refine qf ?_ _)); exact BK271.out) : p := h
theorem fo {p : Prop} (h : p := by (with_reducible repeat (first | refine qg ?_ _ | refine qi ?_ | refine qf ?_ _)); exact BK209.out) : p := h
theorem fq {p : Prop} (h : p := by (with_reducible repeat (first | refine qg ?_ _ | refine qi ?_ | refine qf ?_ _)); exact BK116.out) : p := h
theorem fu {p : Prop} (h : p := by (with_reducible repeat (first | apply Kd.xg | apply Kd.xh | apply Kd.xv)); exact HO219.out) : p := h
theorem fw {p : Prop} (h : p := by (with_reducible repeat (first | refine qg ?_ _ | refine qi ?_ | refine qf ?_ _)); refine xt ?_ NB258_260.out _; (with_reducible repeat (first | refine qg ?_ _ | refine qi ?_ | refine qf ?_ _)); refine xt ?_ NB258_260.out _; (with_reducible repeat (first | refine qg ?_ _ | refine qi ?_ | refine qf ?_ _)); refine xt ?_ NB258_260.out _; (with_reducible repeat (first | refine qg ?_ _ | refine qi ?_ | refine qf ?_ _)); exact BK258.out) : p := h
theorem caa {p : Prop} (h : p := by (with_reducible repeat (first | refine qg ?_ _ | refine qi ?_ | refine qf ?_ _)); refine xt ?_ NB196_198.out _; (with_reducible repeat (first | refine qg ?_ _ | refine qi ?_ | refine qf ?_ _)); refine xt ?_ NB196_198.out _; (with_reducible repeat (first | refine qg ?_ _ | refine qi ?_ | refine qf ?_ _)); refine xt ?_ NB196_198.out _; (with_reducible repeat (first | refine qg ?_ _ | refine qi ?_ | refine qf ?_ _)); exact BK196.out) : p := h
theorem cab {p : Prop} (h : p := by repeat (first | (with_reducible first | exact HB.out | apply qc | apply qb | apply qd | refine qe ?_ GE125.out) | exact HB.out)) : p := h
theorem cac {p : Prop} (h : p := by (with_reducible repeat (first | apply Kd.zh | apply Kd.zg | apply Kd.zr)); exact HO_24.out) : p := h
theorem cad {p : Prop} (h : p := by (with_reducible repeat (first | apply Kd.zh | apply Kd.zg | apply Kd.zr)); exact HO_3.out) : p := h
theorem cae {p : Prop} (h : p := by repeat (first | (with_reducible first | exact HK.out | apply KeepBut.set_ | apply keep_drewN | apply keep_drew | apply keep_alloc | refine keep_far ?_ GW280.out _) | exact HK.out)) : p := h
theorem caf {p : Prop} (h : p := by repeat (first | (with_reducible first | exact HB.out | apply qc | apply qb | apply qd | refine qe ?_ GE216.out | refine qe ?_ GE221.out) | exact HB.out)) : p := h
theorem cag {p : Prop} (h : p := by repeat (first | (with_reducible first | exact HK.out | apply KeepBut.set_ | apply keep_drewN | apply keep_drew | apply keep_alloc) | exact HK.out)) : p := h
theorem cah {p : Prop} (h : p := by (with_reducible repeat (first | apply Kd.zh | apply Kd.zg | apply Kd.zr)); exact HO_7.out) : p := h
theorem cai {p : Prop} (h : p := by (with_reducible repeat (first | refine qg ?_ _ | refine qi ?_ | refine qf ?_ _)); refine xt ?_ NB216_221.out _; (with_reducible repeat (first | refine qg ?_ _ | refine qi ?_ | refine qf ?_ _)); exact BK216.out) : p := h
theorem caj {p : Prop} (h : p := by (with_reducible repeat (first | refine qg ?_ _ | refine qi ?_ | refine qf ?_ _)); exact BK280.out) : p := h
theorem cak {p : Prop} (h : p := by (with_reducible repeat (first | apply Kd.zh | apply Kd.zg | apply Kd.zr)); exact HO_18.out) : p := h
theorem cal {p : Prop} (h : p := by repeat (first | (with_reducible first | exact HB.out | apply qc | apply qb | apply qd | refine qe ?_ GE156.out | refine qe ?_ GE157.out | refine qe ?_ GE173.out) | exact HB.out)) : p := h
theorem cam {p : Prop} (h : p := by repeat (first | (with_reducible first | exact HB.out | apply qc | apply qb | apply qd | refine qe ?_ GE266.out | refine qe ?_ GE267.out) | exact HB.out)) : p := h
theorem cao {p : Prop} (h : p := by repeat (first | (with_reducible first | exact HB.out | apply qc | apply qb | apply qd | refine qe ?_ GE258.out | refine qe ?_ GE260.out) | exact HB.out)) : p := h
theorem caq {p : Prop} (h : p := by repeat (first | (with_reducible first | exact HB.out | apply qc | apply qb | apply qd | refine qe ?_ GE204.out | refine qe ?_ GE205.out) | exact HB.out)) : p := h
theorem car {p : Prop} (h : p := by repeat (first | (with_reducible first | exact HB.out | apply qc | apply qb | apply qd | refine qe ?_ GE196.out | refine qe ?_ GE198.out) | exact HB.out)) : p := h
theorem cas {p : Prop} (h : p := by repeat (first | (with_reducible first | exact HB.out | apply qc | apply qb | apply qd | refine qe ?_ GE244.out) | exact HB.out)) : p := h
end Go.Proofs
