/- Words, walks and plain laws that the claim rests on, gathered. -/
import Derived.Shelf.Strings.Builder1
import Derived.Shelf.Strings.Builder2
import Derived.Shelf.Strings.OnBuilder
import Derived.Shelf.Small.Bits
import Derived.Shelf.Small.Strs
import Derived.Shelf.Strings.BuilderF
import Derived.Shelf.Strings.BuilderK
import Derived.Shelf.Utf8.RuneCount
import Derived.Shelf.Strings.Builder2Cap
import Derived.Shelf.Strconv.Itoa0
import Derived.Shelf.Strconv.Itoa1
import Derived.Shelf.LaysM
import Derived.Shelf.Strconv.Itoa2
import Derived.Shelf.Strconv.Itoa3
import Derived.Shelf.Strings.Search1
import Derived.Shelf.Strings.Search2
import Derived.Shelf.Strings.Search3
import Derived.Shelf.Strings.Cut
import Derived.Shelf.Strings.Count
import Derived.Shelf.Strings.Shaped
import Derived.Shelf.Sort.Plain
import Derived.Ground.GgsProg
import Derived.Shelf.GgSortFunc.Insertion
import Derived.Shelf.GgSortFunc.Small
import Derived.Shelf.GgSortFunc.InsertionK
import Derived.Shelf.GgSortFunc.SmallK
import Derived.Shelf.GgSortFunc.Tiny
import Derived.Shelf.GgSortFunc.Compose
import Derived.Shelf.GgSortFunc.LotD
import Derived.Shelf.GgSortFunc.Pivot
import Derived.Shelf.GgSortFunc.Partition
import Derived.Shelf.GgSortFunc.Pdq
import Derived.Shelf.GgSortFunc.Whole
import Derived.Shelf.Strings.Prefix
import Derived.Shelf.Strings.Split
import Derived.Shelf.Strings.SplitShaped
import Derived.Shelf.Unicode.Decode
import Derived.Shelf.Strings.RuneCount
import Derived.Shelf.Strings.Explode
import Derived.Shelf.Unicode.DecodeSlow
import Derived.Shelf.Unicode.DecodeAny
import Derived.Shelf.Strings.BuilderCap
import Derived.Shelf.Slices.In.SortNone
import Derived.Shelf.Slices.In.SortNone2
import Derived.Shelf.SlSortFunc.Xorshift
import Derived.Shelf.SlSortFuncK.ComposeK
import Derived.Shelf.SlSortFuncK.SiftDownK
import Derived.Shelf.SlSortFuncK.HeapSortK
import Derived.Shelf.SlSortFuncK.PartialInsertionK
import Derived.Shelf.SlSortFuncK.LotDK
import Derived.Shelf.SlSortFuncK.PivotK
import Derived.Shelf.SlSortFuncK.PartitionK
import Derived.Shelf.SlSortFunc.SiftDown
import Derived.Shelf.SlSortFunc.HeapSort
import Derived.Shelf.SlSortFunc.PartialInsertion
import Derived.Shelf.SlSortFuncK.PdqK
import Derived.Shelf.SlSortFuncK.WholeK
import Derived.Test.YthdoohfdminfgaaGreatDoorProg
import Derived.OrdersHeld
import Derived.Deep.RegionHeld3
import Derived.Laws.BitsLemmas
import Derived.RowKit
import Derived.Below
import Derived.Deep.Draws
import Derived.Deep.AppendLies
import Derived.Maps.AppendAt
import Derived.OwnWalk
import Derived.Laws.BytesArg
import Derived.Laws.MakeOwn
import Derived.Laws.OwnMore
import Derived.Deep.OwnRows
import Derived.Tactics
import Derived.Lib.ConvBytes
import Derived.Laws.Slices
import Derived.WalkKit
import Derived.KernelRfl
import Derived.RowKit3
import Derived.Deep.LoopGhost
import Derived.Deep.QuietTactic
import Derived.BigQuiet
import Derived.WideLaws
import Derived.Deep.DeepCutAuto
import Derived.Deep.CutBlock
import Derived.Laws.Rows
import Derived.Lib.AppendStr
import Derived.ArgAppend
import Derived.Laws.IdiomCopy
import Derived.WalkSpells
import Derived.WalkLawsBesides
import Derived.Laws.StructEq
import Derived.Test.YthdoohfdminfgaaGreatDoorNK0
import Derived.Test.YthdoohfdminfgaaGreatDoorNK1
import Derived.Test.YthdoohfdminfgaaGreatDoorNKc
namespace Go.Proofs.YthdoohfdminfgaaGreatDoorW.PrintLast
end Go.Proofs.YthdoohfdminfgaaGreatDoorW.PrintLast
namespace Go.Proofs.YthdoohfdminfgaaGreatDoorW.PrintMore
end Go.Proofs.YthdoohfdminfgaaGreatDoorW.PrintMore
namespace Go.Proofs.YthdoohfdminfgaaGreatDoorW.PrintWords
end Go.Proofs.YthdoohfdminfgaaGreatDoorW.PrintWords
section
namespace Go.Proofs
open Go.Shelf
def Tryz.lays156_ren : Go.Shelf.Ren := ⟨fun | 156 => 53 | 165 => 84 | 166 => 85 | 169 => 86 | 240 => 131 | 241 => 132 | 276 => 151 | 277 => 152 | n => n, fun | 31 => 34 | 9 => 9 | 3 => 3 | 4 => 4 | 0 => 0 | 20 => 20 | 72 => 120 | 76 => 124 | 70 => 118 | 37 => 59 | 75 => 123 | 127 => 156 | 164 => 106 | 5 => 5 | 80 => 126 | n => n, fun | n => n⟩
theorem Tryz.lays156 : Go.Proofs.Lays.n156 Tryz.prog Tryz.lays156_ren := {
 mixed := by kernel_rfl
 f156 := Tryz.func53.trans (congrArg some yj)
 f165 := Tryz.func84.trans (congrArg some yj)
 f166 := Tryz.func85.trans (congrArg some yj)
 f169 := Tryz.func86.trans (congrArg some yj)
 f240 := Tryz.func131.trans (congrArg some yj)
 f241 := Tryz.func132.trans (congrArg some yj)
 f276 := Tryz.func151.trans (congrArg some yj)
 f277 := Tryz.func152.trans (congrArg some yj)
 t0 := Tryz.underlying0
 a0 := Tryz.isAgg0
 z0 := Tryz.sizeOf0
 v0 := Tryz.zeroValue0
 t3 := Tryz.underlying3
 a3 := Tryz.isAgg3
 z3 := Tryz.sizeOf3
 v3 := Tryz.zeroValue3
 t4 := Tryz.underlying4
 a4 := Tryz.isAgg4
 z4 := Tryz.sizeOf4
 v4 := Tryz.zeroValue4
 t9 := Tryz.underlying9
 a9 := Tryz.isAgg9
 z9 := Tryz.sizeOf9
 v9 := Tryz.zeroValue9
 t20 := Tryz.underlying20
 a20 := Tryz.isAgg20
 z20 := Tryz.sizeOf20
 v20 := Tryz.zeroValue20
 t31 := Tryz.underlying34
 a31 := Tryz.isAgg34
 z31 := Tryz.sizeOf34
 v31 := Tryz.zeroValue34
 t37 := Tryz.underlying59
 a37 := Tryz.isAgg59
 z37 := Tryz.sizeOf59
 v37 := Tryz.zeroValue59
 t70 := Tryz.underlying118
 a70 := Tryz.isAgg118
 z70 := Tryz.sizeOf118
 v70 := Tryz.zeroValue118
 t72 := Tryz.underlying120
 a72 := Tryz.isAgg120
 z72 := Tryz.sizeOf120
 v72 := Tryz.zeroValue120
 t75 := Tryz.underlying123
 a75 := Tryz.isAgg123
 z75 := Tryz.sizeOf123
 v75 := Tryz.zeroValue123
 t76 := Tryz.underlying124
 a76 := Tryz.isAgg124
 z76 := Tryz.sizeOf124
 v76 := Tryz.zeroValue124
 t127 := Tryz.underlying156
 a127 := Tryz.isAgg156
 z127 := Tryz.sizeOf156
 v127 := Tryz.zeroValue156
 t164 := Tryz.underlying106
 a164 := Tryz.isAgg106
 z164 := Tryz.sizeOf106
 v164 := Tryz.zeroValue106 }
theorem Tryz.Builder_Extra_156 : Builder.Extra Tryz.prog Tryz.lays156_ren := {
 sizeBuilder := by kernel_rfl
 liesBuilder := by kernel_rfl
 t5 := Tryz.underlying5
 a5 := Tryz.isAgg5
 z5 := Tryz.sizeOf5
 v5 := Tryz.zeroValue5
 infoByte := by kernel_rfl
 cellsByte := by kernel_rfl
 sizeByte := by kernel_rfl
 neB5 := by decide }
open Go.RowKit in
theorem Tryz.strings_Join_none (a : Option Addr) (c : Nat) (sep : ByteArray) (w : World) :
  Calls Tryz.prog 53 #[.slice a 0 c, .string sep] w fun e w' => e = .returned (.string ⟨#[]⟩) ∧ w' = w := Any.strings_Join_none Tryz.lays156 Tryz.Builder_Extra_156 a c sep w
open Go.RowKit in
theorem Tryz.strings_Join (bk o c : Nat) (xs : List ByteArray) (sep : ByteArray) (w : World) (hcells : ∀ (j : Nat) x, xs[j]? = some x → w.cell? ⟨bk, o + j, none⟩ = some (.string x)) (hbk : bk < w.heap.size) (hN : xs.length ≤ 140737488355328) (hcap : xs.length ≤ c) (hlen : (Lib.join (xs.map (·.data.toList)) sep.data.toList).length ≤ 140737488355328) :
  Calls Tryz.prog 53 #[.slice (some ⟨bk, o, none⟩) xs.length c, .string sep] w fun e w' => e = .returned (.string ⟨(Lib.join (xs.map (·.data.toList)) sep.data.toList).toArray⟩) ∧ Below w.heap.size w w' := Any.strings_Join Tryz.lays156 Tryz.Builder_Extra_156 bk o c xs sep w hcells hbk hN hcap hlen
def Tryz.lays137_ren : Go.Shelf.Ren := ⟨fun | 137 => 106 | 217 => 145 | 266 => 170 | n => n, fun | 9 => 9 | 5 => 5 | 3 => 3 | n => n, fun | n => n⟩
theorem Tryz.lays137 : Go.Proofs.Lays.n137 Tryz.prog Tryz.lays137_ren := {
 mixed := by kernel_rfl
 f137 := Tryz.func106.trans (congrArg some yj)
 f217 := Tryz.func145.trans (congrArg some yj)
 f266 := Tryz.func170.trans (congrArg some yj)
 t3 := Tryz.underlying3
 a3 := Tryz.isAgg3
 z3 := Tryz.sizeOf3
 v3 := Tryz.zeroValue3
 t5 := Tryz.underlying5
 a5 := Tryz.isAgg5
 z5 := Tryz.sizeOf5
 v5 := Tryz.zeroValue5
 t9 := Tryz.underlying9
 a9 := Tryz.isAgg9
 z9 := Tryz.sizeOf9
 v9 := Tryz.zeroValue9 }
open Go.RowKit in
theorem Tryz.strings_IndexByte (s : ByteArray) (c : Int) (w : World) :
  Calls Tryz.prog 106 #[.string s, .int .u8 c] w fun e w' => e = .returned (.int .i64 (Lib.indexByte s.data.toList c.toNat.toUInt8)) ∧ w' = w := Any.strings_IndexByte Tryz.lays137 s c w
def Tryz.lays171_ren : Go.Shelf.Ren := ⟨fun | 171 => 93 | 243 => 138 | 246 => 158 | 283 => 177 | 284 => 178 | 285 => 179 | 286 => 180 | 129 => 122 | 317 => 188 | 318 => 189 | 319 => 190 | 320 => 191 | 337 => 193 | 338 => 194 | n => n, fun | 3 => 3 | 9 => 9 | 2 => 2 | 4 => 4 | 171 => 184 | 0 => 0 | 53 => 147 | 37 => 59 | 5 => 5 | 173 => 186 | 212 => 198 | 51 => 145 | 20 => 20 | 213 => 199 | 46 => 102 | 232 => 203 | 233 => 204 | n => n, fun | 17 => 3 | 18 => 4 | 19 => 5 | n => n⟩
theorem Tryz.lays171 : Go.Proofs.Lays.n171 Tryz.prog Tryz.lays171_ren := {
 mixed := by kernel_rfl
 f129 := Tryz.func122.trans (congrArg some yj)
 f171 := Tryz.func93.trans (congrArg some yj)
 f243 := Tryz.func138.trans (congrArg some yj)
 f246 := Tryz.func158.trans (congrArg some yj)
 f283 := Tryz.func177.trans (congrArg some yj)
 f284 := Tryz.func178.trans (congrArg some yj)
 f285 := Tryz.func179.trans (congrArg some yj)
 f286 := Tryz.func180.trans (congrArg some yj)
 f317 := Tryz.func188.trans (congrArg some yj)
 f318 := Tryz.func189.trans (congrArg some yj)
 f319 := Tryz.func190.trans (congrArg some yj)
 f320 := Tryz.func191.trans (congrArg some yj)
 f337 := Tryz.func193.trans (congrArg some yj)
 f338 := Tryz.func194.trans (congrArg some yj)
 t0 := Tryz.underlying0
 a0 := Tryz.isAgg0
 z0 := Tryz.sizeOf0
 v0 := Tryz.zeroValue0
 t2 := Tryz.underlying2
 a2 := Tryz.isAgg2
 z2 := Tryz.sizeOf2
 v2 := Tryz.zeroValue2
 t3 := Tryz.underlying3
 a3 := Tryz.isAgg3
 z3 := Tryz.sizeOf3
 v3 := Tryz.zeroValue3
 t4 := Tryz.underlying4
 a4 := Tryz.isAgg4
 z4 := Tryz.sizeOf4
 v4 := Tryz.zeroValue4
 t5 := Tryz.underlying5
 a5 := Tryz.isAgg5
 z5 := Tryz.sizeOf5
 v5 := Tryz.zeroValue5
 t9 := Tryz.underlying9
 a9 := Tryz.isAgg9
 z9 := Tryz.sizeOf9
 v9 := Tryz.zeroValue9
 t20 := Tryz.underlying20
 a20 := Tryz.isAgg20
 z20 := Tryz.sizeOf20
 v20 := Tryz.zeroValue20
 t37 := Tryz.underlying59
 a37 := Tryz.isAgg59
 z37 := Tryz.sizeOf59
 v37 := Tryz.zeroValue59
 t46 := Tryz.underlying102
 a46 := Tryz.isAgg102
 z46 := Tryz.sizeOf102
 v46 := Tryz.zeroValue102
 t51 := Tryz.underlying145
 a51 := Tryz.isAgg145
 z51 := Tryz.sizeOf145
 v51 := Tryz.zeroValue145
 t53 := Tryz.underlying147
 a53 := Tryz.isAgg147
 z53 := Tryz.sizeOf147
 v53 := Tryz.zeroValue147
 t171 := Tryz.underlying184
 a171 := Tryz.isAgg184
 z171 := Tryz.sizeOf184
 v171 := Tryz.zeroValue184
 t173 := Tryz.underlying186
 a173 := Tryz.isAgg186
 z173 := Tryz.sizeOf186
 v173 := Tryz.zeroValue186
 t212 := Tryz.underlying198
 a212 := Tryz.isAgg198
 z212 := Tryz.sizeOf198
 v212 := Tryz.zeroValue198
 t213 := Tryz.underlying199
 a213 := Tryz.isAgg199
 z213 := Tryz.sizeOf199
 t232 := Tryz.underlying203
 a232 := Tryz.isAgg203
 z232 := Tryz.sizeOf203
 v232 := Tryz.zeroValue203
 t233 := Tryz.underlying204
 a233 := Tryz.isAgg204
 z233 := Tryz.sizeOf204
 v233 := Tryz.zeroValue204
 g17 := by kernel_rfl
 g18 := by kernel_rfl
 g19 := by kernel_rfl }
open Go.RowKit Go.Sort Go.Lib in
theorem Tryz.strconv_Itoa_small (i : Nat) (hi : i < 100) (w : World) :
  Calls Tryz.prog 93 #[.int .i64 i] w fun e w' => e = .returned (.string ⟨(Lib.decDigits i).toArray⟩) ∧ w' = w := Any.strconv_Itoa_small Tryz.lays171 i hi w
def Tryz.lays145_ren : Go.Shelf.Ren := ⟨fun | 145 => 90 | 220 => 136 | 219 => 156 | 217 => 145 | 225 => 173 | 224 => 174 | 267 => 175 | 266 => 170 | 314 => 187 | n => n, fun | 9 => 9 | 4 => 4 | 59 => 128 | 3 => 3 | 5 => 5 | 46 => 102 | 146 => 195 | 51 => 145 | n => n, fun | 1 => 0 | n => n⟩
theorem Tryz.lays145 : Go.Proofs.Lays.n145 Tryz.prog Tryz.lays145_ren := {
 mixed := by kernel_rfl
 f145 := Tryz.func90.trans (congrArg some yj)
 f217 := Tryz.func145.trans (congrArg some yj)
 f219 := Tryz.func156.trans (congrArg some yj)
 f220 := Tryz.func136.trans (congrArg some yj)
 f224 := Tryz.func174.trans (congrArg some yj)
 f225 := Tryz.func173.trans (congrArg some yj)
 f266 := Tryz.func170.trans (congrArg some yj)
 f267 := Tryz.func175.trans (congrArg some yj)
 f314 := Tryz.func187.trans (congrArg some yj)
 t3 := Tryz.underlying3
 a3 := Tryz.isAgg3
 z3 := Tryz.sizeOf3
 v3 := Tryz.zeroValue3
 t4 := Tryz.underlying4
 a4 := Tryz.isAgg4
 z4 := Tryz.sizeOf4
 v4 := Tryz.zeroValue4
 t5 := Tryz.underlying5
 a5 := Tryz.isAgg5
 z5 := Tryz.sizeOf5
 v5 := Tryz.zeroValue5
 t9 := Tryz.underlying9
 a9 := Tryz.isAgg9
 z9 := Tryz.sizeOf9
 v9 := Tryz.zeroValue9
 t46 := Tryz.underlying102
 a46 := Tryz.isAgg102
 z46 := Tryz.sizeOf102
 v46 := Tryz.zeroValue102
 t51 := Tryz.underlying145
 a51 := Tryz.isAgg145
 z51 := Tryz.sizeOf145
 v51 := Tryz.zeroValue145
 t59 := Tryz.underlying128
 a59 := Tryz.isAgg128
 z59 := Tryz.sizeOf128
 v59 := Tryz.zeroValue128
 t146 := Tryz.underlying195
 a146 := Tryz.isAgg195
 z146 := Tryz.sizeOf195
 v146 := Tryz.zeroValue195
 g1 := by kernel_rfl }
open Go.RowKit Go.Lib in
theorem Tryz.strings_Cut (s sep : ByteArray) (m : Int) (w : World) (hs : s.size < 4294967281) (hm : w.cell? ⟨0, 0, none⟩ = some (.int .i64 m)) :
  Calls Tryz.prog 90 #[.string s, .string sep] w fun e w' => e = .returned (.tuple #[.string ⟨(Lib.cut s.data.toList sep.data.toList).1.toArray⟩, .string ⟨(Lib.cut s.data.toList sep.data.toList).2.1.toArray⟩, .bool (Lib.cut s.data.toList sep.data.toList).2.2]) ∧ ∃ n, w' = w.drewN n := Any.strings_Cut Tryz.lays145 s sep m w hs hm
def Tryz.laysM219_ren : Go.Shelf.Ren := ⟨fun | 219 => 156 | 217 => 145 | 225 => 173 | 224 => 174 | 267 => 175 | 266 => 170 | 314 => 187 | n => n, fun | 9 => 9 | 3 => 3 | 4 => 4 | 5 => 5 | 46 => 102 | 146 => 195 | 51 => 145 | n => n, fun | 1 => 0 | n => n⟩
theorem Tryz.laysM219 : Go.Proofs.LaysM.n219 Tryz.prog Tryz.laysM219_ren := {
 mixed := by kernel_rfl
 f217 := Tryz.func145.trans (congrArg some yj)
 f219 := Tryz.func156.trans (congrArg some yj)
 f224 := Tryz.func174.trans (congrArg some yj)
 f225 := Tryz.func173.trans (congrArg some yj)
 f266 := Tryz.func170.trans (congrArg some yj)
 f267 := Tryz.func175.trans (congrArg some yj)
 f314 := Tryz.func187.trans (congrArg some yj)
 t3 := Tryz.underlying3
 a3 := Tryz.isAgg3
 z3 := Tryz.sizeOf3
 v3 := Tryz.zeroValue3
 t4 := Tryz.underlying4
 a4 := Tryz.isAgg4
 z4 := Tryz.sizeOf4
 v4 := Tryz.zeroValue4
 t5 := Tryz.underlying5
 a5 := Tryz.isAgg5
 z5 := Tryz.sizeOf5
 v5 := Tryz.zeroValue5
 t9 := Tryz.underlying9
 a9 := Tryz.isAgg9
 z9 := Tryz.sizeOf9
 v9 := Tryz.zeroValue9
 t46 := Tryz.underlying102
 a46 := Tryz.isAgg102
 z46 := Tryz.sizeOf102
 v46 := Tryz.zeroValue102
 t51 := Tryz.underlying145
 a51 := Tryz.isAgg145
 z51 := Tryz.sizeOf145
 v51 := Tryz.zeroValue145
 t146 := Tryz.underlying195
 a146 := Tryz.isAgg195
 z146 := Tryz.sizeOf195
 v146 := Tryz.zeroValue195
 g1 := by kernel_rfl
 i3 := by kernel_rfl
 i4 := by kernel_rfl
 i5 := by kernel_rfl
 i9 := by kernel_rfl
 i46 := by kernel_rfl
 i51 := by kernel_rfl
 i146 := by kernel_rfl
 m1 := by kernel_rfl
 s1_3 := fun w h => Go.Proofs.cell_of_shapedOpen_int (zero := #[.int .i64 0]) (t := 3) h (of_decide_eq_true yj) yj rfl yj yj Tryz.underlying3 }
def Tryz.lays192_ren : Go.Shelf.Ren := ⟨fun | 192 => 62 | 190 => 94 | 125 => 82 | 258 => 139 | 128 => 121 | 129 => 122 | 302 => 159 | 303 => 160 | 304 => 161 | 305 => 162 | 306 => 163 | 307 => 164 | 308 => 165 | 309 => 166 | 310 => 167 | 333 => 181 | 329 => 182 | 330 => 183 | 334 => 184 | 335 => 185 | 336 => 186 | 344 => 192 | n => n, fun | 31 => 34 | 0 => 0 | 9 => 9 | 3 => 3 | 46 => 102 | 51 => 145 | 53 => 147 | 4 => 4 | 183 => 176 | 182 => 175 | 131 => 154 | 5 => 5 | 218 => 188 | 222 => 167 | 228 => 201 | 229 => 182 | n => n, fun | n => n⟩
theorem Tryz.lays192 : Go.Proofs.Lays.n192 Tryz.prog Tryz.lays192_ren := {
 mixed := by kernel_rfl
 f125 := Tryz.func82.trans (congrArg some yj)
 f128 := Tryz.func121.trans (congrArg some yj)
 f129 := Tryz.func122.trans (congrArg some yj)
 f190 := Tryz.func94.trans (congrArg some yj)
 f192 := Tryz.func62.trans (congrArg some yj)
 f258 := Tryz.func139.trans (congrArg some yj)
 f302 := Tryz.func159.trans (congrArg some yj)
 f303 := Tryz.func160.trans (congrArg some yj)
 f304 := Tryz.func161.trans (congrArg some yj)
 f305 := Tryz.func162.trans (congrArg some yj)
 f306 := Tryz.func163.trans (congrArg some yj)
 f307 := Tryz.func164.trans (congrArg some yj)
 f308 := Tryz.func165.trans (congrArg some yj)
 f309 := Tryz.func166.trans (congrArg some yj)
 f310 := Tryz.func167.trans (congrArg some yj)
 f329 := Tryz.func182.trans (congrArg some yj)
 f330 := Tryz.func183.trans (congrArg some yj)
 f333 := Tryz.func181.trans (congrArg some yj)
 f334 := Tryz.func184.trans (congrArg some yj)
 f335 := Tryz.func185.trans (congrArg some yj)
 f336 := Tryz.func186.trans (congrArg some yj)
 f344 := Tryz.func192.trans (congrArg some yj)
 t0 := Tryz.underlying0
 a0 := Tryz.isAgg0
 z0 := Tryz.sizeOf0
 v0 := Tryz.zeroValue0
 t3 := Tryz.underlying3
 a3 := Tryz.isAgg3
 z3 := Tryz.sizeOf3
 v3 := Tryz.zeroValue3
 t4 := Tryz.underlying4
 a4 := Tryz.isAgg4
 z4 := Tryz.sizeOf4
 v4 := Tryz.zeroValue4
 t5 := Tryz.underlying5
 a5 := Tryz.isAgg5
 z5 := Tryz.sizeOf5
 v5 := Tryz.zeroValue5
 t9 := Tryz.underlying9
 a9 := Tryz.isAgg9
 z9 := Tryz.sizeOf9
 v9 := Tryz.zeroValue9
 t31 := Tryz.underlying34
 a31 := Tryz.isAgg34
 z31 := Tryz.sizeOf34
 v31 := Tryz.zeroValue34
 t46 := Tryz.underlying102
 a46 := Tryz.isAgg102
 z46 := Tryz.sizeOf102
 v46 := Tryz.zeroValue102
 t51 := Tryz.underlying145
 a51 := Tryz.isAgg145
 z51 := Tryz.sizeOf145
 v51 := Tryz.zeroValue145
 t53 := Tryz.underlying147
 a53 := Tryz.isAgg147
 z53 := Tryz.sizeOf147
 v53 := Tryz.zeroValue147
 t131 := Tryz.underlying154
 a131 := Tryz.isAgg154
 z131 := Tryz.sizeOf154
 v131 := Tryz.zeroValue154
 t182 := Tryz.underlying175
 a182 := Tryz.isAgg175
 z182 := Tryz.sizeOf175
 v182 := Tryz.zeroValue175
 t183 := Tryz.underlying176
 a183 := Tryz.isAgg176
 z183 := Tryz.sizeOf176
 v183 := Tryz.zeroValue176
 t218 := Tryz.underlying188
 a218 := Tryz.isAgg188
 z218 := Tryz.sizeOf188
 v218 := Tryz.zeroValue188
 t222 := Tryz.underlying167
 a222 := Tryz.isAgg167
 z222 := Tryz.sizeOf167
 v222 := Tryz.zeroValue167
 t228 := Tryz.underlying201
 a228 := Tryz.isAgg201
 z228 := Tryz.sizeOf201
 v228 := Tryz.zeroValue201
 t229 := Tryz.underlying182
 a229 := Tryz.isAgg182
 z229 := Tryz.sizeOf182
 v229 := Tryz.zeroValue182 }
open Go.Sort Go.RowKit in
theorem Tryz.sort_Strings (blk off cap : Nat) (ss : List (List UInt8)) (w : World) (hH : Holds encStr w blk off ss.toArray) (hblk : blk < w.heap.size) (hsz : ss.length < 4611686018427387904) :
  Calls Tryz.prog 62 #[.slice (some ⟨blk, off, none⟩) ss.length cap] w fun e w' =>
   e = .returned (.tuple #[]) ∧ ∃ n os, w' = grow (putRow encStr (Sort.ahead w n) blk off (ss.mergeSort fun x y => decide (x ≤ y)).toArray) os := Any.sort_Strings Tryz.lays192 blk off cap ss w hH hblk hsz
def Tryz.lays206_ren : Go.Shelf.Ren := ⟨fun | 206 => 169 | n => n, fun | 9 => 9 | 4 => 4 | 3 => 3 | n => n, fun | n => n⟩
theorem Tryz.lays206 : Go.Proofs.Lays.n206 Tryz.prog Tryz.lays206_ren := {
 mixed := by kernel_rfl
 f206 := Tryz.func169.trans (congrArg some yj)
 t3 := Tryz.underlying3
 a3 := Tryz.isAgg3
 z3 := Tryz.sizeOf3
 v3 := Tryz.zeroValue3
 t4 := Tryz.underlying4
 a4 := Tryz.isAgg4
 z4 := Tryz.sizeOf4
 v4 := Tryz.zeroValue4
 t9 := Tryz.underlying9
 a9 := Tryz.isAgg9
 z9 := Tryz.sizeOf9
 v9 := Tryz.zeroValue9 }
open Go.RowKit Go.Lib in
theorem Tryz.stringslite_HasPrefix (s p : ByteArray) (w : World) :
  Calls Tryz.prog 169 #[.string s, .string p] w fun e w' => e = .returned (.bool (Lib.hasPrefix s.data.toList p.data.toList)) ∧ w' = w := Any.stringslite_HasPrefix Tryz.lays206 s p w
def Tryz.lays99_ren : Go.Shelf.Ren := ⟨fun | 99 => 144 | 206 => 169 | n => n, fun | 9 => 9 | 4 => 4 | 3 => 3 | n => n, fun | n => n⟩
theorem Tryz.lays99 : Go.Proofs.Lays.n99 Tryz.prog Tryz.lays99_ren := {
 mixed := by kernel_rfl
 f99 := Tryz.func144.trans (congrArg some yj)
 f206 := Tryz.func169.trans (congrArg some yj)
 t3 := Tryz.underlying3
 a3 := Tryz.isAgg3
 z3 := Tryz.sizeOf3
 v3 := Tryz.zeroValue3
 t4 := Tryz.underlying4
 a4 := Tryz.isAgg4
 z4 := Tryz.sizeOf4
 v4 := Tryz.zeroValue4
 t9 := Tryz.underlying9
 a9 := Tryz.isAgg9
 z9 := Tryz.sizeOf9
 v9 := Tryz.zeroValue9 }
open Go.RowKit Go.Lib in
theorem Tryz.strings_HasPrefix (s p : ByteArray) (w : World) :
  Calls Tryz.prog 144 #[.string s, .string p] w fun e w' => e = .returned (.bool (Lib.hasPrefix s.data.toList p.data.toList)) ∧ w' = w := Any.strings_HasPrefix Tryz.lays99 s p w
def Tryz.lays146_ren : Go.Shelf.Ren := ⟨fun | 146 => 56 | 221 => 89 | 268 => 133 | 138 => 134 | 143 => 135 | 195 => 153 | 197 => 154 | 218 => 155 | 219 => 156 | 260 => 172 | 217 => 145 | 225 => 173 | 224 => 174 | 267 => 175 | 266 => 170 | 314 => 187 | n => n, fun | 9 => 9 | 31 => 34 | 3 => 3 | 4 => 4 | 0 => 0 | 105 => 171 | 21 => 21 | 5 => 5 | 46 => 102 | 119 => 191 | 139 => 194 | 138 => 193 | 146 => 195 | 51 => 145 | n => n, fun | 1 => 0 | 3 => 1 | 4 => 2 | n => n⟩
theorem Tryz.lays146 : Go.Proofs.Lays.n146 Tryz.prog Tryz.lays146_ren := {
 mixed := by kernel_rfl
 f138 := Tryz.func134.trans (congrArg some yj)
 f143 := Tryz.func135.trans (congrArg some yj)
 f146 := Tryz.func56.trans (congrArg some yj)
 f195 := Tryz.func153.trans (congrArg some yj)
 f197 := Tryz.func154.trans (congrArg some yj)
 f217 := Tryz.func145.trans (congrArg some yj)
 f218 := Tryz.func155.trans (congrArg some yj)
 f219 := Tryz.func156.trans (congrArg some yj)
 f221 := Tryz.func89.trans (congrArg some yj)
 f224 := Tryz.func174.trans (congrArg some yj)
 f225 := Tryz.func173.trans (congrArg some yj)
 f260 := Tryz.func172.trans (congrArg some yj)
 f266 := Tryz.func170.trans (congrArg some yj)
 f267 := Tryz.func175.trans (congrArg some yj)
 f268 := Tryz.func133.trans (congrArg some yj)
 f314 := Tryz.func187.trans (congrArg some yj)
 t0 := Tryz.underlying0
 a0 := Tryz.isAgg0
 z0 := Tryz.sizeOf0
 v0 := Tryz.zeroValue0
 t3 := Tryz.underlying3
 a3 := Tryz.isAgg3
 z3 := Tryz.sizeOf3
 v3 := Tryz.zeroValue3
 t4 := Tryz.underlying4
 a4 := Tryz.isAgg4
 z4 := Tryz.sizeOf4
 v4 := Tryz.zeroValue4
 t5 := Tryz.underlying5
 a5 := Tryz.isAgg5
 z5 := Tryz.sizeOf5
 v5 := Tryz.zeroValue5
 t9 := Tryz.underlying9
 a9 := Tryz.isAgg9
 z9 := Tryz.sizeOf9
 v9 := Tryz.zeroValue9
 t21 := Tryz.underlying21
 a21 := Tryz.isAgg21
 z21 := Tryz.sizeOf21
 v21 := Tryz.zeroValue21
 t31 := Tryz.underlying34
 a31 := Tryz.isAgg34
 z31 := Tryz.sizeOf34
 v31 := Tryz.zeroValue34
 t46 := Tryz.underlying102
 a46 := Tryz.isAgg102
 z46 := Tryz.sizeOf102
 v46 := Tryz.zeroValue102
 t51 := Tryz.underlying145
 a51 := Tryz.isAgg145
 z51 := Tryz.sizeOf145
 v51 := Tryz.zeroValue145
 t105 := Tryz.underlying171
 a105 := Tryz.isAgg171
 z105 := Tryz.sizeOf171
 v105 := Tryz.zeroValue171
 t119 := Tryz.underlying191
 a119 := Tryz.isAgg191
 z119 := Tryz.sizeOf191
 t138 := Tryz.underlying193
 a138 := Tryz.isAgg193
 z138 := Tryz.sizeOf193
 v138 := Tryz.zeroValue193
 t139 := Tryz.underlying194
 a139 := Tryz.isAgg194
 z139 := Tryz.sizeOf194
 v139 := Tryz.zeroValue194
 t146 := Tryz.underlying195
 a146 := Tryz.isAgg195
 z146 := Tryz.sizeOf195
 v146 := Tryz.zeroValue195
 g1 := by kernel_rfl
 g3 := by kernel_rfl
 g4 := by kernel_rfl }
open Go.RowKit Go.Lib in
theorem Tryz.strings_Split (s sep : ByteArray) (m : Int) (w : World) (hs : s.size < 4294967281) (hm : w.cell? ⟨0, 0, none⟩ = some (.int .i64 m)) (h1 : 1 ≤ sep.size) :
  Calls Tryz.prog 56 #[.string s, .string sep] w fun e w' =>
   e = .returned (.slice (some ⟨w.heap.size, 0, none⟩) (Lib.countB s sep + 1) (Lib.countB s sep + 1)) ∧ w' = w.alloc (.cells ((Lib.splitB sep 0 (Lib.countB s sep) s).map Value.string).toArray 9) := Any.strings_Split Tryz.lays146 yj s sep m w hs hm h1
open Go.RowKit Go.Sort in
theorem Tryz.sort_Strings_none (p : Option Addr) (cap : Nat) (w : World) :
  Calls Tryz.prog 62 #[.slice p 0 cap] w fun e w' => e = .returned (.tuple #[]) ∧ w' = w := Any.sort_Strings_none Tryz.lays192 p cap w
end Go.Proofs
end
section
namespace Go.Proofs.YthdoohfdminfgaaGreatDoorW.PrintLast
open Go.Proofs.YthdoohfdminfgaaGreatDoorW.PrintWords (qa)
def needsOf (md : Region.Mode) (o : Oper) : List Nat := (o.after.toList.filter (fun e => Region.binds md e)).map (fun e => e.on)
def clashOf (md : Region.Mode) (ops : Array Oper) (i : Nat) (oi : Oper) : List Nat := (List.range ops.size).filter fun j => !(j == i) && match ops[j]? with
 | some oj => !(oj.after.any (fun e => Region.binds md e && e.on == i) || oi.apart ops oj)
 | none => false
def rtab (md : Region.Mode) (ops : Array Oper) : Bool × List (List Nat × List Nat) := (Region.noSelect ops, (List.range ops.size).map fun i => match ops[i]? with
 | some o => (needsOf md o, clashOf md ops i o)
 | none => ([], []))
def readyAt (T : List (List Nat × List Nat)) (l : List Bool) (i : Nat) : Bool := !l.getD i true && match T[i]? with
 | some r => r.1.all (fun j => l.getD j false)
 | none => false
def readyT (T : List (List Nat × List Nat)) (l : List Bool) : List Nat := (List.range T.length).filter (readyAt T l)
def freeT (T : List (List Nat × List Nat)) (l : List Bool) (i : Nat) : Bool := match T[i]? with
 | some r => r.2.all (fun j => l.getD j true)
 | none => false
def closedT (T : List (List Nat × List Nat)) (l : List Bool) : Bool := (List.range T.length).all fun j => !l.getD j false || match T[j]? with
 | some r => r.1.all (fun k => l.getD k false)
 | none => true
def reachT (T : List (List Nat × List Nat)) (i : Nat) : Nat → Nat → Bool
 | 0, _ => false
 | fuel + 1, d => match T[d]? with
  | some r => r.1.any fun j => j == i || reachT T i fuel j
  | none => false
def lastT (T : List (List Nat × List Nat)) (l : List Bool) (ds : List Nat) (i : Nat) : Bool := ds.all fun d => l.getD d true || reachT T i T.length d
section
variable {md : Region.Mode} {ops : Array Oper} {T : Bool × List (List Nat × List Nat)} {l l' li lj lk : Array Bool} {ds : List Nat} {i j k : Nat}
theorem gd (l : Array Bool) (j : Nat) (b : Bool) : l.getD j b = l.toList.getD j b := by simp [Array.getD_eq_getD_getElem?, List.getD_eq_getElem?_getD]
theorem needs_all (o : Oper) (p : Nat → Bool) : o.after.all (fun e => !Region.binds md e || p e.on) = (needsOf md o).all p := by
 unfold needsOf
 rw [← Array.all_toList]
 induction o.after.toList with
 | nil => rfl
 | cons e r ih =>
  rw [List.all_cons, ih, List.filter_cons]
  cases h : Region.binds md e <;> simp
theorem needs_any (o : Oper) (p : Nat → Bool) : o.after.any (fun e => Region.binds md e && p e.on) = (needsOf md o).any p := by
 unfold needsOf
 rw [← Array.any_toList]
 induction o.after.toList with
 | nil => rfl
 | cons e r ih =>
  rw [List.any_cons, ih, List.filter_cons]
  cases h : Region.binds md e <;> simp
theorem rtab_length : (rtab md ops).2.length = ops.size := by simp [rtab]
theorem rtab_some {o : Oper} (h : ops[i]? = some o) : (rtab md ops).2[i]? = some (needsOf md o, clashOf md ops i o) := by
 have hi := (Array.getElem?_eq_some_iff.1 h).1
 unfold rtab
 rw [List.getElem?_map, List.getElem?_range hi, Option.map_some, h]
theorem rtab_none (h : ops[i]? = none) : (rtab md ops).2[i]? = none := by
 have hi : ops.size ≤ i := Array.getElem?_eq_none_iff.1 h
 exact List.getElem?_eq_none (by rw [rtab_length]; exact hi)
theorem readyAt_eq : readyAt (rtab md ops).2 l.toList i = (!l.getD i true && ((ops[i]?).map (·.after.all fun e => !Region.binds md e || l.getD e.on false)).getD false) := by
 unfold readyAt
 rw [gd]
 cases h : ops[i]? with
 | none => rw [rtab_none h]; rfl
 | some o =>
  rw [rtab_some h]
  simp only [Option.map_some, Option.getD_some]
  rw [← needs_all]
  simp only [gd]
theorem ready_eq : Region.ready md ops l = readyT (rtab md ops).2 l.toList := by
 unfold Region.ready readyT
 rw [rtab_length]
 refine List.filter_congr (fun i _ => ?_)
 rw [readyAt_eq]
theorem free_eq : Region.free md ops l i = freeT (rtab md ops).2 l.toList i := by
 unfold Region.free freeT
 cases h : ops[i]? with
 | none => rw [rtab_none h]
 | some oi =>
  rw [rtab_some h]
  simp only [clashOf]
  rw [List.all_filter]
  congr 1
  funext j
  rw [gd]
  cases hj : ops[j]? with
  | none => cases (j == i) <;> cases (l.toList.getD j true) <;> simp
  | some oj =>
   cases (j == i) <;> cases (l.toList.getD j true) <;> cases (oj.after.any (fun e => Region.binds md e && e.on == i) || oi.apart ops oj) <;> simp_all
theorem closed_eq : Region.closedB md ops l = closedT (rtab md ops).2 l.toList := by
 unfold Region.closedB closedT
 rw [rtab_length]
 congr 1
 funext j
 rw [gd]
 cases h : ops[j]? with
 | none => rw [rtab_none h]
 | some o =>
  rw [rtab_some h]
  simp only
  rw [← needs_all]
  simp only [gd]
theorem reach_eq : ∀ (fuel d : Nat), Region.reachB md ops i fuel d = reachT (rtab md ops).2 i fuel d
 | 0, _ => rfl
 | fuel + 1, d => by
  unfold Region.reachB reachT
  cases h : ops[d]? with
  | none => rw [rtab_none h]
  | some o =>
   rw [rtab_some h]
   simp only
   rw [← needs_any]
   congr 1
   funext e
   rw [reach_eq fuel]
theorem last_eq : Region.lastB md ops l ds i = lastT (rtab md ops).2 l.toList ds i := by
 unfold Region.lastB lastT
 rw [rtab_length]
 congr 1
 funext d
 rw [gd, reach_eq]
theorem readyAt_mem (h : readyAt T.2 l.toList i = true) (hT : rtab md ops = T) : (Region.ready md ops l).contains i = true := by
 subst hT
 rw [ready_eq]
 unfold readyT
 rw [List.contains_iff_mem, List.mem_filter, List.mem_range]
 refine ⟨?_, h⟩
 unfold readyAt at h
 rw [Bool.and_eq_true] at h
 cases hq : (rtab md ops).2[i]? with
 | none => rw [hq] at h; simp at h
 | some r => exact (List.getElem?_eq_some_iff.1 hq).1
theorem set_of (h : (l.toList.set i true == l'.toList) = true) : (l.setIfInBounds i true == l') = true := by
 rw [beq_iff_eq] at h ⊢
 apply Array.ext'
 rw [Array.toList_setIfInBounds]
 exact h
def anyT (T : Bool × List (List Nat × List Nat)) (l l' : List Bool) (i : Nat) : Bool := T.1 && freeT T.2 l i && readyAt T.2 l i && (l.set i true == l')
theorem xw (hT : rtab md ops = T) (h : anyT T l.toList l'.toList i = true) : anyB md ops l l' i = true := by
 simp only [anyT, Bool.and_eq_true] at h
 obtain ⟨⟨⟨h1, h2⟩, h3⟩, h4⟩ := h
 have h5 := readyAt_mem h3 hT
 have h6 := set_of h4
 subst hT
 simp only [anyB, Bool.and_eq_true]
 exact ⟨⟨⟨h1, by rw [free_eq]; exact h2⟩, h5⟩, h6⟩
def takeT (T : Bool × List (List Nat × List Nat)) (ds : List Nat) (l l' : List Bool) (i : Nat) : Bool := T.1 && freeT T.2 l i && readyAt T.2 l i && closedT T.2 l && lastT T.2 l ds i && (l.set i true == l')
theorem take_of (hT : rtab md ops = T) (h : takeT T ds l.toList l'.toList i = true) : takeB md ops ds l l' i = true := by
 simp only [takeT, Bool.and_eq_true] at h
 obtain ⟨⟨⟨⟨⟨h1, h2⟩, h3⟩, h4⟩, h5⟩, h6⟩ := h
 have h7 := readyAt_mem h3 hT
 have h8 := set_of h6
 subst hT
 simp only [takeB, Bool.and_eq_true]
 exact ⟨⟨⟨⟨⟨h1, by rw [free_eq]; exact h2⟩, h7⟩, by rw [closed_eq]; exact h4⟩, by rw [last_eq]; exact h5⟩, h8⟩
theorem je (hT : rtab md ops = T) (h : (readyT T.2 l.toList == [i] && l.toList.set i true == l'.toList) = true) : readyB md ops l l' i = true := by
 simp only [Bool.and_eq_true] at h
 obtain ⟨h1, h2⟩ := h
 subst hT
 simp only [readyB, Bool.and_eq_true]
 exact ⟨by rw [ready_eq]; exact h1, set_of h2⟩
theorem done_of (hT : rtab md ops = T) (h : (readyT T.2 l.toList == []) = true) : (Region.ready md ops l == []) = true := by
 subst hT
 rw [ready_eq]
 exact h
def upM (B : List Nat) (d : Nat) : List Nat → Nat
 | [] => 0
 | n :: r => (2 ^ n ||| (if n < d then B.getD n 0 else 0)) ||| upM B d r
def waitsOk (T : List (List Nat × List Nat)) (B : List Nat) : Bool := (List.range T.length).all fun d => match T[d]? with
 | some r => (B.getD d 0 ||| upM B d r.1) == upM B d r.1
 | none => false
theorem upM_bit {B : List Nat} {d i : Nat} : ∀ {ns : List Nat}, (upM B d ns).testBit i = true → ∃ n ∈ ns, n = i ∨ (n < d ∧ (B.getD n 0).testBit i = true)
 | [], h => by simp [upM] at h
 | n :: r, h => by
  unfold upM at h
  rw [Nat.testBit_or, Nat.testBit_or, Bool.or_eq_true, Bool.or_eq_true] at h
  rcases h with (h | h) | h
  ·rw [Nat.testBit_two_pow] at h
   exact ⟨n, List.mem_cons_self, .inl (by simpa using h)⟩
  ·by_cases hn : n < d
   ·rw [if_pos hn] at h
    exact ⟨n, List.mem_cons_self, .inr ⟨hn, h⟩⟩
   ·rw [if_neg hn] at h
    simp at h
  ·obtain ⟨m, hm, h2⟩ := upM_bit h
   exact ⟨m, List.mem_cons_of_mem _ hm, h2⟩
theorem reach_bit {T : List (List Nat × List Nat)} {B : List Nat} (hB : waitsOk T B = true) : ∀ (fuel d : Nat), d < fuel → d < T.length → (B.getD d 0).testBit i = true → reachT T i fuel d = true
 | 0, d, h, _, _ => by omega
 | fuel + 1, d, h, hd, hb => by
  have h1 := List.all_eq_true.1 hB d (List.mem_range.2 hd)
  cases hr : T[d]? with
  | none => rw [hr] at h1; simp at h1
  | some r =>
   rw [hr] at h1
   simp only [beq_iff_eq] at h1
   have h2 : (upM B d r.1).testBit i = true := by rw [← h1, Nat.testBit_or, hb, Bool.true_or]
   obtain ⟨n, hn, h3⟩ := upM_bit h2
   unfold reachT
   rw [hr]
   simp only
   rw [List.any_eq_true]
   refine ⟨n, hn, ?_⟩
   rcases h3 with rfl | ⟨h4, h5⟩
   ·simp
   ·rw [reach_bit hB fuel n yg yg h5, Bool.or_true]
def lastW (T : List (List Nat × List Nat)) (B : List Nat) (l : List Bool) (ds : List Nat) (i : Nat) : Bool := ds.all fun d => l.getD d true || (decide (d < T.length) && (B.getD d 0).testBit i)
def takeW (T : Bool × List (List Nat × List Nat)) (B : List Nat) (ds : List Nat) (l l' : List Bool) (i : Nat) : Bool := T.1 && freeT T.2 l i && readyAt T.2 l i && closedT T.2 l && lastW T.2 B l ds i && (l.set i true == l')
theorem kf {B : List Nat} (hT : rtab md ops = T) (hB : waitsOk T.2 B = true) (h : takeW T B ds l.toList l'.toList i = true) : takeB md ops ds l l' i = true := by
 refine take_of hT ?_
 simp only [takeW, takeT, Bool.and_eq_true] at h ⊢
 obtain ⟨⟨⟨⟨⟨h1, h2⟩, h3⟩, h4⟩, h5⟩, h6⟩ := h
 refine ⟨⟨⟨⟨⟨h1, h2⟩, h3⟩, h4⟩, ?_⟩, h6⟩
 unfold lastW at h5
 unfold lastT
 rw [List.all_eq_true] at h5 ⊢
 intro d hd
 have h7 := h5 d hd
 rw [Bool.or_eq_true, Bool.and_eq_true, decide_eq_true_eq] at h7
 rcases h7 with h7 | ⟨h8, h9⟩
 ·rw [h7, Bool.true_or]
 ·rw [reach_bit hB _ d h8 h8 h9, Bool.or_true]
theorem with_tabW {P : Program} {Q : Exit → Act → World → Prop} {S : World → Prop} {n : Nat} {a : Act} {w : World} {B : List Nat} (hT : rtab md ops = T) (hB : waitsOk T.2 B = true) (h : qa (rtab md ops = T) → qa (waitsOk T.2 B = true) → wpAnyLast P md ops Q S ds n l a w) : wpAnyLast P md ops Q S ds n l a w := h ⟨hT⟩ ⟨hB⟩
end
def opsIn : Code → Nat → Option (Array Oper)
 | .region id ops _, k => if id == k then some ops else none
 | .seq a b, k => match opsIn a k with
  | some o => some o
  | none => opsIn b k
 | .cond _ a b, k => match opsIn a k with
  | some o => some o
  | none => opsIn b k
 | .block _ c, k => opsIn c k
 | .loop c, k => opsIn c k
 | .scope c, k => opsIn c k
 | .rangeFunc _ _ a b, k => match opsIn a k with
  | some o => some o
  | none => opsIn b k
 | _, _ => none
def opsOf (f : Func) (k : Nat) : Array Oper := ((f.body.bind fun c => opsIn c k)).getD #[]
end Go.Proofs.YthdoohfdminfgaaGreatDoorW.PrintLast
end
section
namespace Go.Proofs.YthdoohfdminfgaaGreatDoorW.PrintWords
theorem Reps.one {α : Type} {R : α → List Value → Prop} {ps : List α} {cs : List Value} {p : α} {v : Value} (hp : R p [v]) (h : Reps R 1 ps cs) : Reps R 1 (p :: ps) (v :: cs) := by
 refine ⟨by simp [h.1], fun j q hq => ?_⟩
 cases j with
 | zero =>
  simp only [List.getElem?_cons_zero, Option.some.injEq] at hq
  subst hq
  simpa using hp
 | succ j =>
  simp only [List.getElem?_cons_succ] at hq
  have h1 := h.2 j q hq
  simpa [Nat.mul_one] using h1
theorem Reps.front {α : Type} {R : α → List Value → Prop} {size : Nat} {ps : List α} {cs c all : List Value} {p : α} (hp : R p c) (hc : c.length = size) (h : Reps R size ps cs) (ha : c ++ cs = all) : Reps R size (p :: ps) all := by
 subst ha
 refine ⟨by rw [List.length_append, hc, h.1, List.length_cons, Nat.succ_mul, Nat.add_comm], fun j q hq => ?_⟩
 cases j with
 | zero =>
  simp only [List.getElem?_cons_zero, Option.some.injEq] at hq
  subst hq
  rw [Nat.zero_mul, List.drop_zero, List.take_append_of_le_length yg, List.take_of_length_le yg]
  exact hp
 | succ j =>
  simp only [List.getElem?_cons_succ] at hq
  have h1 := h.2 j q hq
  rw [Nat.succ_mul, List.drop_append, List.drop_of_length_le (by rw [hc]; exact Nat.le_add_left _ _), List.nil_append, hc, Nat.add_sub_cancel]
  exact h1
theorem Reps.c2 {α : Type} {R : α → List Value → Prop} {ps : List α} {cs : List Value} {p : α} {va vb : Value} (hp : R p [va, vb]) (h : Reps R 2 ps cs) : Reps R 2 (p :: ps) (va :: vb :: cs) := Reps.front hp rfl h rfl
theorem Reps.c3 {α : Type} {R : α → List Value → Prop} {ps : List α} {cs : List Value} {p : α} {va vb vc : Value} (hp : R p [va, vb, vc]) (h : Reps R 3 ps cs) : Reps R 3 (p :: ps) (va :: vb :: vc :: cs) := Reps.front hp rfl h rfl
theorem Reps.c4 {α : Type} {R : α → List Value → Prop} {ps : List α} {cs : List Value} {p : α} {va vb vc vd : Value} (hp : R p [va, vb, vc, vd]) (h : Reps R 4 ps cs) : Reps R 4 (p :: ps) (va :: vb :: vc :: vd :: cs) := Reps.front hp rfl h rfl
theorem Reps.c5 {α : Type} {R : α → List Value → Prop} {ps : List α} {cs : List Value} {p : α} {va vb vc vd ve : Value} (hp : R p [va, vb, vc, vd, ve]) (h : Reps R 5 ps cs) : Reps R 5 (p :: ps) (va :: vb :: vc :: vd :: ve :: cs) := Reps.front hp rfl h rfl
theorem Reps.c6 {α : Type} {R : α → List Value → Prop} {ps : List α} {cs : List Value} {p : α} {va vb vc vd ve vf : Value} (hp : R p [va, vb, vc, vd, ve, vf]) (h : Reps R 6 ps cs) : Reps R 6 (p :: ps) (va :: vb :: vc :: vd :: ve :: vf :: cs) := Reps.front hp rfl h rfl
theorem Reps.c7 {α : Type} {R : α → List Value → Prop} {ps : List α} {cs : List Value} {p : α} {va vb vc vd ve vf vg : Value} (hp : R p [va, vb, vc, vd, ve, vf, vg]) (h : Reps R 7 ps cs) : Reps R 7 (p :: ps) (va :: vb :: vc :: vd :: ve :: vf :: vg :: cs) := Reps.front hp rfl h rfl
theorem Reps.c8 {α : Type} {R : α → List Value → Prop} {ps : List α} {cs : List Value} {p : α} {va vb vc vd ve vf vg vh : Value} (hp : R p [va, vb, vc, vd, ve, vf, vg, vh]) (h : Reps R 8 ps cs) : Reps R 8 (p :: ps) (va :: vb :: vc :: vd :: ve :: vf :: vg :: vh :: cs) := Reps.front hp rfl h rfl
theorem Reps.c9 {α : Type} {R : α → List Value → Prop} {ps : List α} {cs : List Value} {p : α} {va vb vc vd ve vf vg vh vi : Value} (hp : R p [va, vb, vc, vd, ve, vf, vg, vh, vi]) (h : Reps R 9 ps cs) : Reps R 9 (p :: ps) (va :: vb :: vc :: vd :: ve :: vf :: vg :: vh :: vi :: cs) := Reps.front hp rfl h rfl
theorem Reps.c10 {α : Type} {R : α → List Value → Prop} {ps : List α} {cs : List Value} {p : α} {va vb vc vd ve vf vg vh vi vj : Value} (hp : R p [va, vb, vc, vd, ve, vf, vg, vh, vi, vj]) (h : Reps R 10 ps cs) : Reps R 10 (p :: ps) (va :: vb :: vc :: vd :: ve :: vf :: vg :: vh :: vi :: vj :: cs) := Reps.front hp rfl h rfl
end Go.Proofs.YthdoohfdminfgaaGreatDoorW.PrintWords
end
section
namespace Go.Proofs.YthdoohfdminfgaaGreatDoorW.PrintWords
open Go.RowKit
section
variable {P : Program} {ops : Array Oper} {rest : List Oper} {o : Oper} {a : Act} {Q : Exit → Act → World → Prop} {W : World}
theorem kg (hw : Region.wanted o (yielded ops a.tmps) = true) (h : wpList P ops Q ({ o with guard := none } :: rest) a W) : wpList P ops Q (o :: rest) a W := by
 have h1 : Region.wanted { o with guard := none } (yielded ops a.tmps) = true := rfl
 unfold wpList at h ⊢
 rw [if_pos h1] at h
 rw [if_pos hw]
 exact h
end
end Go.Proofs.YthdoohfdminfgaaGreatDoorW.PrintWords
end
section
namespace Go.Proofs.YthdoohfdminfgaaGreatDoor.C
open Go.RowKit Go.Proofs.YthdoohfdminfgaaGreatDoorW.PrintWords Go.Proofs.YthdoohfdminfgaaGreatDoorW.PrintLast Go.Proofs.YthdoohfdminfgaaGreatDoorW.PrintMore
attribute [local go_sem] xa z7 xq xr zx zy xc z8
set_option linter.unusedVariables false
set_option linter.unusedSimpArgs false
def errW : Option Int → Value
 | none => .nilIface
 | some c => .iface 0 (.int .i64 c)
theorem qu : errW none = .nilIface := rfl
theorem qt (c : Int) : errW (some c) = .iface 0 (.int .i64 c) := rfl
theorem info3 : (Tryz.prog.info? 3).map (fun i => (i.zero, i.size, i.bytes)) = some (some (.int .i64 0), 1, 8) := by kernel_rfl
theorem info5 : (Tryz.prog.info? 5).map (fun i => (i.zero, i.size, i.bytes)) = some (some (.int .u8 0), 1, 1) := by kernel_rfl
theorem info40 : (Tryz.prog.info? 40).map (fun i => (i.zero, i.size, i.bytes)) = some (some (.agg #[(.string ⟨#[]⟩), (.int .i64 0), (.string ⟨#[]⟩)]), 3, 40) := by kernel_rfl
theorem info42 : (Tryz.prog.info? 42).map (fun i => (i.zero, i.size, i.bytes)) = some (some (.slice none 0 0), 1, 24) := by kernel_rfl
structure S40 where
 f0 : ByteArray
 f1 : Int
 f2 : ByteArray
def z40 : S40 := ⟨(⟨#[]⟩ : ByteArray), (0 : Int), (⟨#[]⟩ : ByteArray)⟩
def k40 : Kd S40 := Kd.iso (Kd.pair Kd.string (Kd.pair (Kd.int .i64) Kd.string)) (fun x : S40 => (x.f0, x.f1, x.f2))
theorem k40_open {w : World} {x : S40} {cs : List Value} (h : k40.K w x cs) : cs = [.string x.f0, .int .i64 x.f1, .string x.f2] := by
 obtain ⟨_, _, rfl, rfl, ⟨_, _, rfl, rfl, rfl⟩⟩ := h
 exact rfl
theorem k9 (w : World) (base : Nat) (ok : Nat → Prop) (x : S40)  : k40.M w base ok x [.string x.f0, .int .i64 x.f1, .string x.f2] := ⟨[.string x.f0], [.int .i64 x.f1, .string x.f2], rfl, rfl, ⟨[.int .i64 x.f1], [.string x.f2], rfl, rfl, rfl⟩⟩
def qn (xs : List S40) (i : Int) : S40 := xs.getD i.toNat z40
theorem k5 {w : World} {A : Option Addr} {n : Nat} {xs : List S40} (h : Kd.C k40 w A n xs) (i : Int) (h0 : 0 ≤ i) (h1 : i < n) : ∃ ad , A = some ad ∧ w.cell? (ad.add (i.toNat * 3)) = some (.string (qn xs i).f0) ∧ w.cell? ⟨(ad.add (i.toNat * 3)).block, (ad.add (i.toNat * 3)).off + 1, none⟩ = some (.int .i64 (qn xs i).f1) ∧ w.cell? ⟨(ad.add (i.toNat * 3)).block, (ad.add (i.toNat * 3)).off + 2, none⟩ = some (.string (qn xs i).f2) := by
 obtain ⟨ad, c, e, _, hK, hc0⟩ := Kd.C_get h z40 i h0 h1
 have hc : ∀ j u, c[j]? = some u → w.cell? (ad.add (i.toNat * 3 + j)) = some u := hc0
 obtain rfl := k40_open hK
 exact ⟨ad, e, hc 0 _ rfl, by rw [← add_field _ _ 1 yg]; exact hc 1 _ rfl, by rw [← add_field _ _ 2 yg]; exact hc 2 _ rfl⟩
def xx (xs : List (List S40)) (i : Int) : (List S40) := xs.getD i.toNat ([] : List S40)
theorem at_L5 {w : World} {A : Option Addr} {n : Nat} {xs : List (List S40)} (h : Kd.C (Kd.slice 40 k40) w A n xs) (i : Int) (h0 : 0 ≤ i) (h1 : i < n) : ∃ ad A0 c0, A = some ad ∧ w.cell? (ad.add i.toNat) = some (.slice A0 (xx xs i).length c0) ∧ (xx xs i).length ≤ c0 ∧ k40.C w A0 (xx xs i).length (xx xs i) := by
 obtain ⟨ad, c, e, _, hK, hc0⟩ := Kd.C_get h ([] : List S40) i h0 h1
 have hc : ∀ j u, c[j]? = some u → w.cell? (ad.add (i.toNat * 1 + j)) = some u := hc0
 obtain ⟨A0, c0, rfl, l0, g0⟩ := hK
 exact ⟨ad, A0, c0, e, by have hq := hc 0 _ rfl; rwa [Nat.mul_one, Nat.add_zero] at hq, l0, g0⟩
structure S83 where
 f0 : ByteArray
 f1 : ByteArray
def z83 : S83 := ⟨(⟨#[]⟩ : ByteArray), (⟨#[]⟩ : ByteArray)⟩
def k83 : Kd S83 := Kd.iso (Kd.pair Kd.string Kd.string) (fun x : S83 => (x.f0, x.f1))
theorem k83_open {w : World} {x : S83} {cs : List Value} (h : k83.K w x cs) : cs = [.string x.f0, .string x.f1] := by
 obtain ⟨_, _, rfl, rfl, rfl⟩ := h
 exact rfl
theorem k83_mkM (w : World) (base : Nat) (ok : Nat → Prop) (x : S83)  : k83.M w base ok x [.string x.f0, .string x.f1] := ⟨[.string x.f0], [.string x.f1], rfl, rfl, rfl⟩
def rd_T83 (xs : List S83) (i : Int) : S83 := xs.getD i.toNat z83
theorem at_T83 {w : World} {A : Option Addr} {n : Nat} {xs : List S83} (h : Kd.C k83 w A n xs) (i : Int) (h0 : 0 ≤ i) (h1 : i < n) : ∃ ad , A = some ad ∧ w.cell? (ad.add (i.toNat * 2)) = some (.string (rd_T83 xs i).f0) ∧ w.cell? ⟨(ad.add (i.toNat * 2)).block, (ad.add (i.toNat * 2)).off + 1, none⟩ = some (.string (rd_T83 xs i).f1) := by
 obtain ⟨ad, c, e, _, hK, hc0⟩ := Kd.C_get h z83 i h0 h1
 have hc : ∀ j u, c[j]? = some u → w.cell? (ad.add (i.toNat * 2 + j)) = some u := hc0
 obtain rfl := k83_open hK
 exact ⟨ad, e, hc 0 _ rfl, by rw [← add_field _ _ 1 yg]; exact hc 1 _ rfl⟩
end Go.Proofs.YthdoohfdminfgaaGreatDoor.C
end
section
namespace Go.Proofs.YthdoohfdminfgaaGreatDoor.C
open Go.RowKit Go.Proofs.YthdoohfdminfgaaGreatDoorW.PrintWords Go.Proofs.YthdoohfdminfgaaGreatDoorW.PrintLast Go.Proofs.YthdoohfdminfgaaGreatDoorW.PrintMore
attribute [local go_sem] xa z7 xq xr zx zy xc z8
set_option linter.unusedVariables false
set_option linter.unusedSimpArgs false
def strings_Split.f (a0 a1 : ByteArray) : Option (List ByteArray) := if 1 ≤ a1.size ∧ a0.size < 4294967281 then some (Lib.splitB a1 0 (Lib.countB a0 a1) a0) else none
theorem strings_Split.calls (a0 : ByteArray) (a1 : ByteArray) (r : List ByteArray) (w : World) (hG : LibHeld w) (h : strings_Split.f a0 a1 = some r) :
  Calls Tryz.prog 56 #[.string a0, .string a1] w fun e w' => ∃ v0_ : Value, e = .returned (v0_) ∧ Kd.R Kd.string 9 w' w.heap.size (fun _ => True) v0_ r ∧ Below w.heap.size w w' := by
 unfold strings_Split.f at h
 split at h
 ·rename_i hc
  obtain rfl := Option.some.inj h
  obtain ⟨m, hm⟩ := hG.maxLen
  refine (Tryz.strings_Split a0 a1 m w hc.2 hm hc.1).mono fun e w' ⟨he, hw⟩ => ?_
  have hl := Lib.splitB_all a1 hc.1 0 _ a0 rfl
  subst hw
  refine ⟨_, he, Kd.R_strs w _ hl (by have := Lib.countB_le a1 hc.1 a0.size a0 (Nat.le_refl _); omega), qc (Below.refl _ _) _⟩
 ·exact absurd h yt
mutual
def xj.j0 : Nat → ByteArray → Bool → Option (Int)
 | 0, _, _ => none
 | k + 1, x0, x21 => if x21 = true then (some (-1)) else (xj.l0 k x0 0 0)
def xj.l0 : Nat → ByteArray → Int → Int → Option (Int)
 | 0, _, _, _ => none
 | k + 1, x0, x3, x4 => if x4 < (x0.size : Int) then (if 0 ≤ x4 then (if (bt x0 x4) < 48 then (some (-1)) else (if (bt x0 x4) > 57 then (some (-1)) else (xj.l0 k x0 (wrap64 ((wrap64 (10 * x3)) + (((bt x0 x4) - 48) % 256))) (wrap64 (x4 + 1))))) else (none)) else (if x3 > 2147483647 then (some (-1)) else (some x3))
end
def xj.f (k : Nat) (a0 : ByteArray) : Option (Int) := if a0.toList = ([] : List UInt8) then (xj.j0 k a0 true) else (if (a0.size : Int) > 10 then (xj.j0 k a0 true) else (if 0 < (a0.size : Int) then (if (bt a0 0) = 48 then (xj.j0 k a0 (decide ((a0.size : Int) > 1))) else (xj.j0 k a0 false)) else (none)))
theorem xj.xi : ∀ k, (∀ y0 y1, LeO (xj.j0 k y0 y1) (xj.j0 (k + 1) y0 y1)) ∧ (∀ y0 y1 y2, LeO (xj.l0 k y0 y1 y2) (xj.l0 (k + 1) y0 y1 y2))
 | 0 => ⟨fun _ _ r h => by simp [xj.j0] at h, fun _ _ _ r h => by simp [xj.l0] at h⟩
 | k + 1 => by
  obtain ⟨ih0, ih1⟩ := xj.xi k
  refine ⟨?_, ?_⟩
  ·intro y0 y1
   unfold xj.j0
   repeat' first
   | (with_reducible exact ih0 _ _)
   | (with_reducible exact ih1 _ _ _)
   | (with_reducible exact LeO.refl _)
   | (with_reducible exact LeO.none _)
   | (with_reducible refine LeO.ite ?_ ?_)
   | (with_reducible refine LeO.bind ?_ (fun _ => ?_))
  ·intro y0 y1 y2
   unfold xj.l0
   repeat' first
   | (with_reducible exact ih0 _ _)
   | (with_reducible exact ih1 _ _ _)
   | (with_reducible exact LeO.refl _)
   | (with_reducible exact LeO.none _)
   | (with_reducible refine LeO.ite ?_ ?_)
   | (with_reducible refine LeO.bind ?_ (fun _ => ?_))
theorem xj.mono : ∀ a0 k, LeO (xj.f k a0) (xj.f (k + 1) a0) := by
 intro a0 k
 obtain ⟨ih0, ih1⟩ := xj.xi k
 unfold xj.f
 repeat' first
   | (with_reducible exact ih0 _ _)
   | (with_reducible exact ih1 _ _ _)
   | (with_reducible exact LeO.refl _)
   | (with_reducible exact LeO.none _)
   | (with_reducible refine LeO.ite ?_ ?_)
   | (with_reducible refine LeO.bind ?_ (fun _ => ?_))
set_option maxHeartbeats 8000000 in
set_option maxRecDepth 100000 in
theorem xj.calls (k : Nat) (a0 : ByteArray) (r : Int) (w : World) (h : xj.f k a0 = some r) :
  Calls Tryz.prog 142 #[.string a0] w fun e w' => e = .returned (.int .i64 r) ∧ qx w w' := by
 have H : (if a0.toList = ([] : List UInt8) then (xj.j0 k a0 true) else (if (a0.size : Int) > 10 then (xj.j0 k a0 true) else (if 0 < (a0.size : Int) then (if (bt a0 0) = 48 then (xj.j0 k a0 (decide ((a0.size : Int) > 1))) else (xj.j0 k a0 false)) else (none)))) = some r := h
 clear h
 have HC2 := qa.mk H
 clear H
 go_enter Tryz.func142, Tryz.ntmps142
 go_upto_region 1 with (fail)
 go_cut [21] (fun v21 wc => ∃ (kq : Nat) (x21_1 : Bool), v21 = .bool x21_1 ∧ qa (xj.j0 kq a0 x21_1 = some r) ∧ qa (kq ≤ k) ∧ qx w wc)
 case first =>
  have H := HC2.out
  clear HC2
  by_cases c3 : a0.toList = ([] : List UInt8)
  ·rw [if_pos c3] at H
   have c3b0 : (a0.toList == ([] : List UInt8)) = true := beq_iff_eq.mpr c3
   have c3b1 : (a0.toList != ([] : List UInt8)) = false := bne_eq_false_iff_eq.mpr c3
   clear c3
   (first | rw [c3b0] | (simp only [zm, zq]; rw [c3b0]) | skip)
   have H' := qa.mk H
   clear H
   go_wp2
   go_meet
   case rel => exact ⟨_, (true), yf, H', ⟨by first | omega | exact Nat.le_refl _⟩, by repeat (first | exact qx.refl _ | apply qx.step)⟩
  ·rw [if_neg c3] at H
   have c3b0 : (a0.toList == ([] : List UInt8)) = false := beq_eq_false_iff_ne.mpr c3
   have c3b1 : (a0.toList != ([] : List UInt8)) = true := bne_iff_ne.mpr c3
   (first | rw [c3b0] | (simp only [zm, zq]; rw [c3b0]) | skip)
   by_cases c4 : (a0.size : Int) > 10
   ·rw [if_pos c4] at H
    have c4b0 : decide (10 < (a0.size : Int)) = true := decide_eq_true c4
    have c4b1 : decide (10 < a0.size) = true := decide_eq_true yg
    clear c4
    have H' := qa.mk H
    clear H
    go_wp2
    go_meet
    case rel => exact ⟨_, (true), yf, H', ⟨by first | omega | exact Nat.le_refl _⟩, by repeat (first | exact qx.refl _ | apply qx.step)⟩
   ·rw [if_neg c4] at H
    have c4b0 : decide (10 < (a0.size : Int)) = false := decide_eq_false c4
    have c4b1 : decide (10 < a0.size) = false := decide_eq_false yg
    clear c4
    by_cases c5 : 0 < (a0.size : Int)
    ·rw [if_pos c5] at H
     have c5b0 : decide (0 < (a0.size : Int)) = true := decide_eq_true c5
     have c5b1 : decide (0 < a0.size) = true := decide_eq_true yg
     clear c5
     by_cases c7 : (bt a0 0) = 48
     ·rw [if_pos c7] at H
      have c7b0 : ((bt a0 0) == 48) = true := beq_iff_eq.mpr c7
      have c7b1 : ((bt a0 0) != 48) = false := bne_eq_false_iff_eq.mpr c7
      clear c7
      have H' := qa.mk H
      clear H
      have p6 : 0 ≤ (0 : Int) := yg
      have q6 : 0 < a0.size := (by have : (0 : Int) < (a0.size : Int) := of_decide_eq_true cz; omega)
      have hx6 : ∀ h : 0 < a0.size, ((a0[0]'h).toNat : Int) = bt a0 0 := km a0 0
      clear p6
      have qi6 : (0 < (a0.size : Int)) = True := eq_true (of_decide_eq_true cz)
      replace q6 := eq_true q6
      go_wp2
      go_meet
      case rel => exact ⟨_, (decide ((a0.size : Int) > 1)), yf, H', ⟨by first | omega | exact Nat.le_refl _⟩, by repeat (first | exact qx.refl _ | apply qx.step)⟩
     ·rw [if_neg c7] at H
      have c7b0 : ((bt a0 0) == 48) = false := beq_eq_false_iff_ne.mpr c7
      have c7b1 : ((bt a0 0) != 48) = true := bne_iff_ne.mpr c7
      have H' := qa.mk H
      clear H
      have p6 : 0 ≤ (0 : Int) := yg
      have q6 : 0 < a0.size := (by have : (0 : Int) < (a0.size : Int) := of_decide_eq_true cz; omega)
      have hx6 : ∀ h : 0 < a0.size, ((a0[0]'h).toNat : Int) = bt a0 0 := km a0 0
      clear p6
      have qi6 : (0 < (a0.size : Int)) = True := eq_true (of_decide_eq_true cz)
      replace q6 := eq_true q6
      go_wp2
      go_meet
      case rel => exact ⟨_, (false), yf, H', ⟨by first | omega | exact Nat.le_refl _⟩, by repeat (first | exact qx.refl _ | apply qx.step)⟩
    ·rw [if_neg c5] at H
     exact absurd H yt
 case rest =>
  clear HC2
  (try clear c1); (try clear p2); (try clear c3); (try clear c3b0); (try clear c3b1); (try clear c4); (try clear c4b0); (try clear c4b1); (try clear c5); (try clear c5b0); (try clear c5b1); try clear p6
  (try clear q6); (try clear hx6); (try clear qi6); (try clear c7); (try clear c7b0); (try clear c7b1); (try clear p6); try clear q6
  obtain ⟨kq, x21_1, rfl, HA, HJ1, ⟨mc1, rfl⟩⟩ := hcut
  cases kq with
  | zero => exact absurd HA.out (by simp [xj.j0])
  | succ kj1 =>
   have H := HA.out
   clear HA
   simp only [xj.j0] at H
   by_cases c8 : x21_1 = true
   ·subst c8
    have H1 : (some (-1)) = some r := by rw [if_pos rfl] at H; exact H
    clear H
    have H := H1
    clear H1
    obtain rfl := Option.some.inj H
    go_wp2
    go_ret
    exact ⟨by first | rfl | (simp; done) | (simp [*]; done), by repeat (first | exact qx.refl _ | apply qx.step)⟩
   ·replace c8 := Bool.eq_false_iff.mpr c8
    subst c8
    have H1 : (xj.l0 kj1 a0 0 0) = some r := by rw [if_neg (show ¬ (false = true) by decide)] at H; exact H
    clear H
    have H := H1
    clear H1
    have H' := qa.mk H
    clear H
    go_wp2
    go_loopg [3, 4] kj1 (fun kq v3 v4 w' => ∃ (x3_2 : Int) (x4_2 : Int), v3 = .int .i64 x3_2 ∧ v4 = .int .i64 x4_2 ∧ qa (xj.l0 kq a0 x3_2 x4_2 = some r) ∧ qa (kq ≤ kj1) ∧ qx w w')
    case atStart => exact ⟨(0), (0), yf, yf, H', ⟨Nat.le_refl _⟩, by repeat (first | exact qx.refl _ | apply qx.step)⟩
    case round =>
     clear H'
     (try clear c1); (try clear p2); (try clear c3); (try clear c3b0); (try clear c3b1); (try clear c4); (try clear c4b0); (try clear c4b1); (try clear c5); (try clear c5b0); (try clear c5b1); try clear p6
     (try clear q6); (try clear hx6); (try clear qi6); (try clear c7); (try clear c7b0); (try clear c7b1); (try clear c8); (try clear p2); (try clear p6); try clear q6
     obtain ⟨x3_2, x4_2, rfl, rfl, HA, HK2, ⟨m2, rfl⟩⟩ := hrel
     cases gk with
     | zero => exact absurd HA.out (by simp [xj.l0])
     | succ k2 =>
      have H := HA.out
      clear HA
      simp only [xj.l0] at H
      by_cases c9 : x4_2 < (a0.size : Int)
      ·rw [if_pos c9] at H
       have c9b0 : decide (x4_2 < (a0.size : Int)) = true := decide_eq_true c9
       clear c9
       by_cases c10 : 0 ≤ x4_2
       ·rw [if_pos c10] at H
        have c10b0 : decide (0 ≤ x4_2) = true := decide_eq_true c10
        clear c10
        by_cases c12 : (bt a0 x4_2) < 48
        ·rw [if_pos c12] at H
         have c12b0 : decide ((bt a0 x4_2) < 48) = true := decide_eq_true c12
         clear c12
         obtain rfl := Option.some.inj H
         have p11 : 0 ≤ (x4_2 : Int) := of_decide_eq_true cz
         have q11 : x4_2 < (a0.size : Int) := of_decide_eq_true cz
         have hx11 := km a0 x4_2
         replace p11 := eq_true p11
         replace q11 := eq_true q11
         go_wp2
         go_ret
         exact ⟨by first | rfl | (simp; done) | (simp [*]; done), by repeat (first | exact qx.refl _ | apply qx.step)⟩
        ·rw [if_neg c12] at H
         have c12b0 : decide ((bt a0 x4_2) < 48) = false := decide_eq_false c12
         clear c12
         by_cases c14 : (bt a0 x4_2) > 57
         ·rw [if_pos c14] at H
          have c14b0 : decide (57 < (bt a0 x4_2)) = true := decide_eq_true c14
          clear c14
          obtain rfl := Option.some.inj H
          have p11 : 0 ≤ (x4_2 : Int) := of_decide_eq_true cz
          have q11 : x4_2 < (a0.size : Int) := of_decide_eq_true cz
          have hx11 := km a0 x4_2
          replace p11 := eq_true p11
          replace q11 := eq_true q11
          have p13 : 0 ≤ (x4_2 : Int) := of_decide_eq_true cz
          have q13 : x4_2 < (a0.size : Int) := of_decide_eq_true cz
          have hx13 := km a0 x4_2
          replace p13 := eq_true p13
          replace q13 := eq_true q13
          go_wp2
          go_ret
          exact ⟨by first | rfl | (simp; done) | (simp [*]; done), by repeat (first | exact qx.refl _ | apply qx.step)⟩
         ·rw [if_neg c14] at H
          have c14b0 : decide (57 < (bt a0 x4_2)) = false := decide_eq_false c14
          clear c14
          have H' := qa.mk H
          clear H
          have p11 : 0 ≤ (x4_2 : Int) := of_decide_eq_true cz
          have q11 : x4_2 < (a0.size : Int) := of_decide_eq_true cz
          have hx11 := km a0 x4_2
          replace p11 := eq_true p11
          replace q11 := eq_true q11
          have p13 : 0 ≤ (x4_2 : Int) := of_decide_eq_true cz
          have q13 : x4_2 < (a0.size : Int) := of_decide_eq_true cz
          have hx13 := km a0 x4_2
          replace p13 := eq_true p13
          replace q13 := eq_true q13
          have p15 : 0 ≤ (x4_2 : Int) := of_decide_eq_true cz
          have q15 : x4_2 < (a0.size : Int) := of_decide_eq_true cz
          have hx15 := km a0 x4_2
          replace p15 := eq_true p15
          replace q15 := eq_true q15
          go_wp2
          go_roundg k2
          case measure => have := HJ1.out; have := HK2.out; omega
          case rel => exact ⟨(wrap64 ((wrap64 (10 * x3_2)) + (((bt a0 x4_2) - 48) % 256))), (wrap64 (x4_2 + 1)), yf, yf, H', ⟨by have := HJ1.out; have := HK2.out; omega⟩, by repeat (first | exact qx.refl _ | apply qx.step)⟩
       ·rw [if_neg c10] at H
        exact absurd H yt
      ·rw [if_neg c9] at H
       have c9b0 : decide (x4_2 < (a0.size : Int)) = false := decide_eq_false c9
       clear c9
       by_cases c16 : x3_2 > 2147483647
       ·rw [if_pos c16] at H
        have c16b0 : decide (2147483647 < x3_2) = true := decide_eq_true c16
        clear c16
        obtain rfl := Option.some.inj H
        go_wp2
        go_ret
        exact ⟨by first | rfl | (simp; done) | (simp [*]; done), by repeat (first | exact qx.refl _ | apply qx.step)⟩
       ·rw [if_neg c16] at H
        have c16b0 : decide (2147483647 < x3_2) = false := decide_eq_false c16
        clear c16
        obtain rfl := Option.some.inj H
        go_wp2
        go_ret
        exact ⟨by first | rfl | (simp; done) | (simp [*]; done), by repeat (first | exact qx.refl _ | apply qx.step)⟩
end Go.Proofs.YthdoohfdminfgaaGreatDoor.C
end
section
namespace Go.Proofs.YthdoohfdminfgaaGreatDoor.C
open Go.RowKit Go.Proofs.YthdoohfdminfgaaGreatDoorW.PrintWords Go.Proofs.YthdoohfdminfgaaGreatDoorW.PrintLast Go.Proofs.YthdoohfdminfgaaGreatDoorW.PrintMore
attribute [local go_sem] xa z7 xq xr zx zy xc z8
set_option linter.unusedVariables false
set_option linter.unusedSimpArgs false
def oid_root.f (a0 : Int) (a1 : Int) : Option (Bool) := if a0 ≤ 1 then (if a1 ≤ 39 then (some true) else (some (a0 == 2))) else (some (a0 == 2))
set_option maxHeartbeats 8000000 in
set_option maxRecDepth 100000 in
theorem oid_root.calls (a0 : Int) (a1 : Int) (r : Bool) (w : World) (h : oid_root.f a0 a1 = some r) :
  Calls Tryz.prog 143 #[.int .i64 a0, .int .i64 a1] w fun e w' => e = .returned (.bool r) ∧ qx w w' := by
 have H : (if a0 ≤ 1 then (if a1 ≤ 39 then (some true) else (some (a0 == 2))) else (some (a0 == 2))) = some r := h
 clear h
 by_cases c3 : a0 ≤ 1
 ·rw [if_pos c3] at H
  have c3b0 : decide (a0 ≤ 1) = true := decide_eq_true c3
  clear c3
  by_cases c4 : a1 ≤ 39
  ·rw [if_pos c4] at H
   have c4b0 : decide (a1 ≤ 39) = true := decide_eq_true c4
   clear c4
   obtain rfl := Option.some.inj H
   go_enter Tryz.func143, Tryz.ntmps143
   go_wp2
   go_ret
   exact ⟨by first | rfl | (simp; done) | (simp [*]; done), by repeat (first | exact qx.refl _ | apply qx.step)⟩
  ·rw [if_neg c4] at H
   have c4b0 : decide (a1 ≤ 39) = false := decide_eq_false c4
   clear c4
   obtain rfl := Option.some.inj H
   go_enter Tryz.func143, Tryz.ntmps143
   go_wp2
   go_ret
   exact ⟨by first | rfl | (simp; done) | (simp [*]; done), by repeat (first | exact qx.refl _ | apply qx.step)⟩
 ·rw [if_neg c3] at H
  have c3b0 : decide (a0 ≤ 1) = false := decide_eq_false c3
  clear c3
  obtain rfl := Option.some.inj H
  go_enter Tryz.func143, Tryz.ntmps143
  go_wp2
  go_ret
  exact ⟨by first | rfl | (simp; done) | (simp [*]; done), by repeat (first | exact qx.refl _ | apply qx.step)⟩
end Go.Proofs.YthdoohfdminfgaaGreatDoor.C
end
section
namespace Go.Proofs.YthdoohfdminfgaaGreatDoor.C
open Go.RowKit Go.Proofs.YthdoohfdminfgaaGreatDoorW.PrintWords Go.Proofs.YthdoohfdminfgaaGreatDoorW.PrintLast Go.Proofs.YthdoohfdminfgaaGreatDoorW.PrintMore
attribute [local go_sem] xa z7 xq xr zx zy xc z8
set_option linter.unusedVariables false
set_option linter.unusedSimpArgs false
mutual
def xk.j0 : Nat → List ByteArray → Bool → Option (List Int)
 | 0, _, _ => none
 | k + 1, x3, x17 => if x17 = true then (some ([] : List Int)) else (xk.l0 k ([] : List Int) x3 (x3.length : Int) 0)
def xk.l0 : Nat → List Int → List ByteArray → Int → Int → Option (List Int)
 | 0, _, _, _, _ => none
 | k + 1, x4, x18, x19, x20 => if x20 < x19 then (if 0 ≤ x20 then (if x20 < (x18.length : Int) then ((xj.f k (rdOf ByteArray.empty x18 x20)).bind fun t105 => (if t105 < 0 then (some ([] : List Int)) else (if x4.length < 17592186044416 then (xk.l0 k (x4 ++ [t105]) x18 x19 (wrap64 (x20 + 1))) else (none)))) else (none)) else (none)) else (if 0 < (x4.length : Int) then (if 1 < (x4.length : Int) then ((oid_root.f (rd x4 0) (rd x4 1)).bind fun t111 => (if t111 = true then (some x4) else (some ([] : List Int)))) else (none)) else (none))
end
def xk.f (k : Nat) (a0 : ByteArray) : Option (List Int) := (strings_Split.f a0 (⟨#[46]⟩ : ByteArray)).bind fun t101 => (if (t101.length : Int) < 2 then (xk.j0 k t101 true) else (xk.j0 k t101 (decide ((t101.length : Int) > 12))))
theorem xk.xi : ∀ k, (∀ y0 y1, LeO (xk.j0 k y0 y1) (xk.j0 (k + 1) y0 y1)) ∧ (∀ y0 y1 y2 y3, LeO (xk.l0 k y0 y1 y2 y3) (xk.l0 (k + 1) y0 y1 y2 y3))
 | 0 => ⟨fun _ _ r h => by simp [xk.j0] at h, fun _ _ _ _ r h => by simp [xk.l0] at h⟩
 | k + 1 => by
  obtain ⟨ih0, ih1⟩ := xk.xi k
  refine ⟨?_, ?_⟩
  ·intro y0 y1
   unfold xk.j0
   repeat' first
   | (with_reducible exact ih0 _ _)
   | (with_reducible exact ih1 _ _ _ _)
   | (with_reducible exact xj.mono _ _)
   | (with_reducible exact LeO.refl _)
   | (with_reducible exact LeO.none _)
   | (with_reducible refine LeO.ite ?_ ?_)
   | (with_reducible refine LeO.bind ?_ (fun _ => ?_))
  ·intro y0 y1 y2 y3
   unfold xk.l0
   repeat' first
   | (with_reducible exact ih0 _ _)
   | (with_reducible exact ih1 _ _ _ _)
   | (with_reducible exact xj.mono _ _)
   | (with_reducible exact LeO.refl _)
   | (with_reducible exact LeO.none _)
   | (with_reducible refine LeO.ite ?_ ?_)
   | (with_reducible refine LeO.bind ?_ (fun _ => ?_))
theorem xk.mono : ∀ a0 k, LeO (xk.f k a0) (xk.f (k + 1) a0) := by
 intro a0 k
 obtain ⟨ih0, ih1⟩ := xk.xi k
 unfold xk.f
 repeat' first
   | (with_reducible exact ih0 _ _)
   | (with_reducible exact ih1 _ _ _ _)
   | (with_reducible exact xj.mono _ _)
   | (with_reducible exact LeO.refl _)
   | (with_reducible exact LeO.none _)
   | (with_reducible refine LeO.ite ?_ ?_)
   | (with_reducible refine LeO.bind ?_ (fun _ => ?_))
set_option maxHeartbeats 8000000 in
set_option maxRecDepth 100000 in
theorem xk.calls (k : Nat) (a0 : ByteArray) (r : List Int) (w : World) (hG : LibHeld w) (h : xk.f k a0 = some r) :
  Calls Tryz.prog 100 #[.string a0] w fun e w' => ∃ v0_ : Value, e = .returned (v0_) ∧ Kd.R (Kd.int .i64) 3 w' w.heap.size (fun _ => True) v0_ r ∧ (r = [] → v0_ = .slice none 0 0) ∧ Below w.heap.size w w' := by
 have HG := qa.mk hG
 clear hG
 have HB := qa.mk (Below.refl w.heap.size w)
 have H : ((strings_Split.f a0 (⟨#[46]⟩ : ByteArray)).bind fun t101 => (if (t101.length : Int) < 2 then (xk.j0 k t101 true) else (xk.j0 k t101 (decide ((t101.length : Int) > 12))))) = some r := h
 clear h
 replace H := Option.bind_eq_some_iff.mp H
 obtain ⟨t101, A20, H⟩ := H
 replace H : (if (t101.length : Int) < 2 then (xk.j0 k t101 true) else (xk.j0 k t101 (decide ((t101.length : Int) > 12)))) = some r := H
 have A2 := qa.mk A20
 clear A20
 have HC3 := qa.mk H
 clear H
 go_enter Tryz.func100, Tryz.ntmps100
 go_upto_region 2 with (first | (go_at_call 56; (with_reducible refine (strings_Split.calls a0 (⟨#[46]⟩ : ByteArray) t101 _ ?side1 A2.out).mono ?_); (case side1 => exact LibHeld.below HG.out cu); rintro e w4 ⟨v102, rfl, ho0, hb⟩; have n0_ := qa.mk (Kd.R_lower ho0 (qr cu)); have n1_ := qa.mk (qp cu hb); clear HB; have HO103 := n0_; have HB := n1_; clear n0_ n1_; (try clear hb); (try clear hb2); (try clear hk); (try clear hi); (try clear ho0)))
 repeat (go_quiet (first | (go_at_call 56; (with_reducible refine (strings_Split.calls a0 (⟨#[46]⟩ : ByteArray) t101 _ ?side1 A2.out).mono ?_); (case side1 => exact LibHeld.below HG.out cu); rintro e w4 ⟨v102, rfl, ho0, hb⟩; have n0_ := qa.mk (Kd.R_lower ho0 (qr cu)); have n1_ := qa.mk (qp cu hb); clear HB; have HO103 := n0_; have HB := n1_; clear n0_ n1_; (try clear hb); (try clear hb2); (try clear hk); (try clear hi); (try clear ho0))); go_upto_region 2 with (first | (go_at_call 56; (with_reducible refine (strings_Split.calls a0 (⟨#[46]⟩ : ByteArray) t101 _ ?side1 A2.out).mono ?_); (case side1 => exact LibHeld.below HG.out cu); rintro e w4 ⟨v102, rfl, ho0, hb⟩; have n0_ := qa.mk (Kd.R_lower ho0 (qr cu)); have n1_ := qa.mk (qp cu hb); clear HB; have HO103 := n0_; have HB := n1_; clear n0_ n1_; (try clear hb); (try clear hb2); (try clear hk); (try clear hi); (try clear ho0))))
 (try simp only [Act.put, List.setIfInBounds_toArray, List.set_cons_zero, List.set_cons_succ])
 go_cut [17] (fun v17 wc => ∃ (kq : Nat) (x17_2 : Bool), v17 = .bool x17_2 ∧ qa (xk.j0 kq t101 x17_2 = some r) ∧ qa (kq ≤ k) ∧ qa (Kd.R Kd.string 9 wc w.heap.size (fun _ => True) v102 t101) ∧ qa (Below w.heap.size w wc))
 case first =>
  have H := HC3.out
  clear HC3
  by_cases c5 : (t101.length : Int) < 2
  ·rw [if_pos c5] at H
   have c5b0 : decide ((t101.length : Int) < 2) = true := decide_eq_true c5
   have c5b1 : decide (t101.length < 2) = true := decide_eq_true yg
   clear c5
   (first | rw [c5b0] | (simp only [zm, zq]; rw [c5b0]) | skip)
   have H' := qa.mk H
   clear H
   obtain ⟨Ao6, co6, eo6⟩ := Kd.kj HO103.out
   subst eo6
   go_wp2
   repeat (go_quiet (fail); try go_wp2)
   go_meet
   case rel => exact ⟨_, (true), yf, H', ⟨by first | omega | exact Nat.le_refl _⟩, ⟨by (with_reducible repeat (first | apply Kd.zh | apply Kd.zg | apply Kd.zr)); exact HO103.out⟩, ⟨by repeat (first | (with_reducible first | exact HB.out | apply qc | apply qb | apply qd) | exact HB.out)⟩⟩
  ·rw [if_neg c5] at H
   have c5b0 : decide ((t101.length : Int) < 2) = false := decide_eq_false c5
   have c5b1 : decide (t101.length < 2) = false := decide_eq_false yg
   clear c5
   (first | rw [c5b0] | (simp only [zm, zq]; rw [c5b0]) | skip)
   have H' := qa.mk H
   clear H
   obtain ⟨Ao7, co7, eo7⟩ := Kd.kj HO103.out
   subst eo7
   go_wp2
   repeat (go_quiet (fail); try go_wp2)
   go_meet
   case rel => exact ⟨_, (decide ((t101.length : Int) > 12)), yf, H', ⟨by first | omega | exact Nat.le_refl _⟩, ⟨by (with_reducible repeat (first | apply Kd.zh | apply Kd.zg | apply Kd.zr)); exact HO103.out⟩, ⟨by repeat (first | (with_reducible first | exact HB.out | apply qc | apply qb | apply qd) | exact HB.out)⟩⟩
 case rest =>
  clear HC3
  (try clear c1); (try clear p2); (try clear c5); (try clear c5b0); try clear c5b1
  obtain ⟨kq, x17_2, rfl, HA, HJ2, HO_3, HB⟩ := hcut
  cases kq with
  | zero => exact absurd HA.out (by simp [xk.j0])
  | succ kj2 =>
   have H := HA.out
   clear HA
   simp only [xk.j0] at H
   by_cases c8 : x17_2 = true
   ·subst c8
    have H1 : (some ([] : List Int)) = some r := by rw [if_pos rfl] at H; exact H
    clear H
    have H := H1
    clear H1
    obtain rfl := Option.some.inj H
    go_wp2
    repeat (go_quiet (fail); try go_wp2)
    go_ret
    exact ⟨_, by first | rfl | (simp [qu, qt] <;> rfl) | (simp [*, qu, qt] <;> rfl), by first | exact Kd.R_nil _ _ _ _ _ | exact Kd.N_nil _ _ _ _ _ | exact Kd.V_nil _ _ _ _ _ | exact Kd.Q_nil _ _ _ _ _ | exact Kd.S_nil _ _ _ _ _, by first | exact rfl | exact (fun _ => rfl) | exact (fun h_ => absurd c17b0 (by rw [h_]; decide)), by repeat (first | (with_reducible first | exact HB.out | apply qc | apply qb | apply qd) | exact HB.out)⟩
   ·replace c8 := Bool.eq_false_iff.mpr c8
    subst c8
    have H1 : (xk.l0 kj2 ([] : List Int) t101 (t101.length : Int) 0) = some r := by rw [if_neg (show ¬ (false = true) by decide)] at H; exact H
    clear H
    have H := H1
    clear H1
    have H' := qa.mk H
    clear H
    obtain ⟨Ao9, co9, eo9⟩ := Kd.kj HO_3.out
    subst eo9
    go_wp2
    repeat (go_quiet (fail); try go_wp2)
    go_loopg [4, 20] kj2 (fun kq v4 v20 w' => ∃ (x4_2 : List Int) (x20_2 : Int), v20 = .int .i64 x20_2 ∧ qa (xk.l0 kq x4_2 t101 (t101.length : Int) x20_2 = some r) ∧ qa (kq ≤ kj2) ∧ qa (Kd.R (Kd.int .i64) 3 w' w.heap.size (fun _ => True) v4 x4_2) ∧ qa (Kd.R Kd.string 9 w' w.heap.size (fun _ => True) (.slice Ao9 t101.length co9) t101) ∧ qa (Below w.heap.size w w'))
    case atStart => exact ⟨(([] : List Int)), (0), yf, H', ⟨Nat.le_refl _⟩, ⟨by first | exact Kd.R_nil _ _ _ _ _ | exact Kd.N_nil _ _ _ _ _ | exact Kd.V_nil _ _ _ _ _ | exact Kd.Q_nil _ _ _ _ _ | exact Kd.S_nil _ _ _ _ _⟩, ⟨by (with_reducible repeat (first | apply Kd.zh | apply Kd.zg | apply Kd.zr)); exact HO_3.out⟩, ⟨by repeat (first | (with_reducible first | exact HB.out | apply qc | apply qb | apply qd) | exact HB.out)⟩⟩
    case round =>
     clear H'
     (try clear c1); (try clear p2); (try clear c5); (try clear c5b0); (try clear c5b1); (try clear c8); try clear p2
     obtain ⟨x4_2, x20_2, rfl, HA, HK2, HO_4, HO_18, HB⟩ := hrel
     cases gk with
     | zero => exact absurd HA.out (by simp [xk.l0])
     | succ k2 =>
      have H := HA.out
      clear HA
      simp only [xk.l0] at H
      by_cases c10 : x20_2 < (t101.length : Int)
      ·rw [if_pos c10] at H
       have c10b0 : decide (x20_2 < (t101.length : Int)) = true := decide_eq_true c10
       clear c10
       by_cases c11 : 0 ≤ x20_2
       ·rw [if_pos c11] at H
        have c11b0 : decide (0 ≤ x20_2) = true := decide_eq_true c11
        clear c11
        by_cases c12 : x20_2 < (t101.length : Int)
        ·rw [if_pos c12] at H
         have c12b0 : decide (x20_2 < (t101.length : Int)) = true := decide_eq_true c12
         clear c12
         replace H := Option.bind_eq_some_iff.mp H
         obtain ⟨t105, A130, H⟩ := H
         replace H : (if t105 < 0 then (some ([] : List Int)) else (if x4_2.length < 17592186044416 then (xk.l0 k2 (x4_2 ++ [t105]) t101 (t101.length : Int) (wrap64 (x20_2 + 1))) else (none))) = some r := H
         have A13 := qa.mk A130
         clear A130
         by_cases c14 : t105 < 0
         ·rw [if_pos c14] at H
          have c14b0 : decide (t105 < 0) = true := decide_eq_true c14
          clear c14
          obtain rfl := Option.some.inj H
          have p104 : 0 ≤ (x20_2 : Int) := of_decide_eq_true cz
          have q104 : x20_2 < (t101.length : Int) := of_decide_eq_true cz
          obtain ⟨ad104, e104, hx104_0⟩ := Kd.at_string (Kd.xp HO_18.out).2.2 x20_2 p104 q104
          cases e104
          replace p104 := eq_true p104
          replace q104 := eq_true q104
          go_wp2_with (first | (go_at_call 142; (with_reducible refine (xj.calls k2 (rdOf ByteArray.empty t101 x20_2) t105 _ A13.out).mono ?_); rintro e w' ⟨rfl, ⟨nd, rfl⟩⟩; (try first | exact ⟨rfl, _, World.drewN_drewN _ _ _⟩ | exact ⟨rfl, _, Eq.trans (World.drewN_drewN _ _ _) (congrArg (World.drewN _) (Nat.add_assoc _ _ _))⟩)))
          repeat (go_quiet (first | (go_at_call 142; (with_reducible refine (xj.calls k2 (rdOf ByteArray.empty t101 x20_2) t105 _ A13.out).mono ?_); rintro e w' ⟨rfl, ⟨nd, rfl⟩⟩; (try first | exact ⟨rfl, _, World.drewN_drewN _ _ _⟩ | exact ⟨rfl, _, Eq.trans (World.drewN_drewN _ _ _) (congrArg (World.drewN _) (Nat.add_assoc _ _ _))⟩))); try go_wp2_with (first | (go_at_call 142; (with_reducible refine (xj.calls k2 (rdOf ByteArray.empty t101 x20_2) t105 _ A13.out).mono ?_); rintro e w' ⟨rfl, ⟨nd, rfl⟩⟩; (try first | exact ⟨rfl, _, World.drewN_drewN _ _ _⟩ | exact ⟨rfl, _, Eq.trans (World.drewN_drewN _ _ _) (congrArg (World.drewN _) (Nat.add_assoc _ _ _))⟩))))
          go_ret
          exact ⟨_, by first | rfl | (simp [qu, qt] <;> rfl) | (simp [*, qu, qt] <;> rfl), by first | exact Kd.R_nil _ _ _ _ _ | exact Kd.N_nil _ _ _ _ _ | exact Kd.V_nil _ _ _ _ _ | exact Kd.Q_nil _ _ _ _ _ | exact Kd.S_nil _ _ _ _ _, by first | exact rfl | exact (fun _ => rfl) | exact (fun h_ => absurd c17b0 (by rw [h_]; decide)), by repeat (first | (with_reducible first | exact HB.out | apply qc | apply qb | apply qd) | exact HB.out)⟩
         ·rw [if_neg c14] at H
          have c14b0 : decide (t105 < 0) = false := decide_eq_false c14
          clear c14
          by_cases c15 : x4_2.length < 17592186044416
          ·rw [if_pos c15] at H
           have LMc15 := qa.mk c15
           clear c15
           obtain ⟨y106, hy106⟩ : ∃ y_ : List Int, y_ = (x4_2 ++ [t105]) := ⟨_, rfl⟩
           replace H : (xk.l0 k2 y106 t101 (t101.length : Int) (wrap64 (x20_2 + 1))) = some r := by first | (rw [hy106]; with_reducible exact H) | (have H2_ := (Option.bind_some _ _).symm.trans H; rw [hy106]; with_reducible exact H2_) | (have H2_ := (Option.bind_some _ _).symm.trans H; with_reducible exact H2_) | with_reducible exact H | (rw [hy106]; exact H) | exact H
           have Ny106 := qa.mk hy106
           clear hy106
           have H' := qa.mk H
           clear H
           have p104 : 0 ≤ (x20_2 : Int) := of_decide_eq_true cz
           have q104 : x20_2 < (t101.length : Int) := of_decide_eq_true cz
           obtain ⟨ad104, e104, hx104_0⟩ := Kd.at_string (Kd.xp HO_18.out).2.2 x20_2 p104 q104
           cases e104
           replace p104 := eq_true p104
           replace q104 := eq_true q104
           go_wp2_with (first | (go_at_call 142; (with_reducible refine (xj.calls k2 (rdOf ByteArray.empty t101 x20_2) t105 _ A13.out).mono ?_); rintro e w' ⟨rfl, ⟨nd, rfl⟩⟩; (try first | exact ⟨rfl, _, World.drewN_drewN _ _ _⟩ | exact ⟨rfl, _, Eq.trans (World.drewN_drewN _ _ _) (congrArg (World.drewN _) (Nat.add_assoc _ _ _))⟩)) | ((with_reducible refine xo (b := .append) (xs := #[.tmp 28, .tmp 30]) rfl ?_); (try (refine kg (by rfl) ?_; dsimp only)); at_builtin; refine Kd.kv (Kd.int .i64) (w0 := w) w.heap.size rfl (.tmp 28) (.tmp 30) 22 3 (.int .i64 0) 8 rfl Tryz.underlying22 info3 rfl (by decide) yg u4 x4_2 t105 [.int .i64 t105] (fun _ => True) (fun _ => False) rfl rfl ?aP (fun _ hk => hk.elim) ?aF ?aO ?aB ?aS ?aL ?_; (case aP => exact rfl); (case aB => exact cu); (case aF => exact (fun _ _ => trivial)); (case aO => exact yz); (case aS => exact (qr cu)); (case aL => have := LMc15.out; omega); intro v107 w16 ho hb hg hat; rw [← Ny106.out] at ho; have n0_ := qa.mk (Kd.R_over' cak (Kd.R_typed yz) (by decide) hg); have n1_ := qa.mk (hb); have n2_ := qa.mk (ho); clear HO_18; clear HB; clear HO_4; have HO_18 := n0_; have HB := n1_; have HO108 := n2_; clear n0_ n1_ n2_; clear ho hb hg hat))
           repeat (go_quiet (first | (go_at_call 142; (with_reducible refine (xj.calls k2 (rdOf ByteArray.empty t101 x20_2) t105 _ A13.out).mono ?_); rintro e w' ⟨rfl, ⟨nd, rfl⟩⟩; (try first | exact ⟨rfl, _, World.drewN_drewN _ _ _⟩ | exact ⟨rfl, _, Eq.trans (World.drewN_drewN _ _ _) (congrArg (World.drewN _) (Nat.add_assoc _ _ _))⟩)) | ((with_reducible refine xo (b := .append) (xs := #[.tmp 28, .tmp 30]) rfl ?_); (try (refine kg (by rfl) ?_; dsimp only)); at_builtin; refine Kd.kv (Kd.int .i64) (w0 := w) w.heap.size rfl (.tmp 28) (.tmp 30) 22 3 (.int .i64 0) 8 rfl Tryz.underlying22 info3 rfl (by decide) yg u4 x4_2 t105 [.int .i64 t105] (fun _ => True) (fun _ => False) rfl rfl ?aP (fun _ hk => hk.elim) ?aF ?aO ?aB ?aS ?aL ?_; (case aP => exact rfl); (case aB => exact cu); (case aF => exact (fun _ _ => trivial)); (case aO => exact yz); (case aS => exact (qr cu)); (case aL => have := LMc15.out; omega); intro v107 w16 ho hb hg hat; rw [← Ny106.out] at ho; have n0_ := qa.mk (Kd.R_over' cak (Kd.R_typed yz) (by decide) hg); have n1_ := qa.mk (hb); have n2_ := qa.mk (ho); clear HO_18; clear HB; clear HO_4; have HO_18 := n0_; have HB := n1_; have HO108 := n2_; clear n0_ n1_ n2_; clear ho hb hg hat)); try go_wp2_with (first | (go_at_call 142; (with_reducible refine (xj.calls k2 (rdOf ByteArray.empty t101 x20_2) t105 _ A13.out).mono ?_); rintro e w' ⟨rfl, ⟨nd, rfl⟩⟩; (try first | exact ⟨rfl, _, World.drewN_drewN _ _ _⟩ | exact ⟨rfl, _, Eq.trans (World.drewN_drewN _ _ _) (congrArg (World.drewN _) (Nat.add_assoc _ _ _))⟩)) | ((with_reducible refine xo (b := .append) (xs := #[.tmp 28, .tmp 30]) rfl ?_); (try (refine kg (by rfl) ?_; dsimp only)); at_builtin; refine Kd.kv (Kd.int .i64) (w0 := w) w.heap.size rfl (.tmp 28) (.tmp 30) 22 3 (.int .i64 0) 8 rfl Tryz.underlying22 info3 rfl (by decide) yg u4 x4_2 t105 [.int .i64 t105] (fun _ => True) (fun _ => False) rfl rfl ?aP (fun _ hk => hk.elim) ?aF ?aO ?aB ?aS ?aL ?_; (case aP => exact rfl); (case aB => exact cu); (case aF => exact (fun _ _ => trivial)); (case aO => exact yz); (case aS => exact (qr cu)); (case aL => have := LMc15.out; omega); intro v107 w16 ho hb hg hat; rw [← Ny106.out] at ho; have n0_ := qa.mk (Kd.R_over' cak (Kd.R_typed yz) (by decide) hg); have n1_ := qa.mk (hb); have n2_ := qa.mk (ho); clear HO_18; clear HB; clear HO_4; have HO_18 := n0_; have HB := n1_; have HO108 := n2_; clear n0_ n1_ n2_; clear ho hb hg hat)))
           go_roundg k2
           case measure => have := HJ2.out; have := HK2.out; omega
           case rel => exact ⟨(y106), (wrap64 (x20_2 + 1)), yf, H', ⟨by have := HJ2.out; have := HK2.out; omega⟩, ⟨by (with_reducible repeat (first | apply Kd.zh | apply Kd.zg | apply Kd.zr)); exact HO108.out⟩, ⟨by (with_reducible repeat (first | apply Kd.zh | apply Kd.zg | apply Kd.zr)); exact HO_18.out⟩, ⟨by repeat (first | (with_reducible first | exact HB.out | apply qc | apply qb | apply qd) | exact HB.out)⟩⟩
          ·rw [if_neg c15] at H
           exact absurd H yt
        ·rw [if_neg c12] at H
         exact absurd H yt
       ·rw [if_neg c11] at H
        exact absurd H yt
      ·rw [if_neg c10] at H
       have c10b0 : decide (x20_2 < (t101.length : Int)) = false := decide_eq_false c10
       clear c10
       by_cases c17 : 0 < (x4_2.length : Int)
       ·rw [if_pos c17] at H
        have c17b0 : decide (0 < (x4_2.length : Int)) = true := decide_eq_true c17
        have c17b1 : decide (0 < x4_2.length) = true := decide_eq_true yg
        clear c17
        by_cases c18 : 1 < (x4_2.length : Int)
        ·rw [if_pos c18] at H
         have c18b0 : decide (1 < (x4_2.length : Int)) = true := decide_eq_true c18
         have c18b1 : decide (1 < x4_2.length) = true := decide_eq_true yg
         clear c18
         replace H := Option.bind_eq_some_iff.mp H
         obtain ⟨t111, A190, H⟩ := H
         replace H : (if t111 = true then (some x4_2) else (some ([] : List Int))) = some r := H
         have A19 := qa.mk A190
         clear A190
         by_cases c20 : t111 = true
         ·subst c20
          have H1 : (some x4_2) = some r := by rw [if_pos rfl] at H; exact H
          clear H
          have H := H1
          clear H1
          obtain rfl := Option.some.inj H
          obtain ⟨Ao21, co21, eo21⟩ := Kd.kj HO_4.out
          subst eo21
          have p109 : 0 ≤ (0 : Int) := yg
          have q109 : 0 < (x4_2.length : Int) := of_decide_eq_true cz
          obtain ⟨ad109, e109, hx109_0⟩ := Kd.at_int (Kd.xp HO_4.out).2.2 0 p109 q109
          cases e109
          have qi109 : (0 < x4_2.length) = True := eq_true yg
          (try rw [show ((0 : Int)).toNat = 0 from rfl] at hx109_0)
          (try rw [Addr.add_zero'] at hx109_0)
          replace p109 := eq_true p109
          replace q109 := eq_true q109
          have p110 : 0 ≤ (1 : Int) := yg
          have q110 : 1 < (x4_2.length : Int) := of_decide_eq_true cz
          obtain ⟨ad110, e110, hx110_0⟩ := Kd.at_int (Kd.xp HO_4.out).2.2 1 p110 q110
          obtain rfl : ad109 = ad110 := (by injection e110)
          (try simp only [show (1 : Int).toNat = 1 from rfl, Nat.reduceMul, Nat.reduceEqDiff, Go.Addr.add, ↓reduceIte] at hx110_0)
          have qi110 : (1 < x4_2.length) = True := eq_true yg
          (try rw [show ((1 : Int)).toNat = 1 from rfl] at hx110_0)
          replace p110 := eq_true p110
          replace q110 := eq_true q110
          go_wp2_with (first | (go_at_call 143; (with_reducible refine (oid_root.calls (rd x4_2 0) (rd x4_2 1) true _ A19.out).mono ?_); rintro e w' ⟨rfl, ⟨nd, rfl⟩⟩; (try first | exact ⟨rfl, _, World.drewN_drewN _ _ _⟩ | exact ⟨rfl, _, Eq.trans (World.drewN_drewN _ _ _) (congrArg (World.drewN _) (Nat.add_assoc _ _ _))⟩)))
          repeat (go_quiet (first | (go_at_call 143; (with_reducible refine (oid_root.calls (rd x4_2 0) (rd x4_2 1) true _ A19.out).mono ?_); rintro e w' ⟨rfl, ⟨nd, rfl⟩⟩; (try first | exact ⟨rfl, _, World.drewN_drewN _ _ _⟩ | exact ⟨rfl, _, Eq.trans (World.drewN_drewN _ _ _) (congrArg (World.drewN _) (Nat.add_assoc _ _ _))⟩))); try go_wp2_with (first | (go_at_call 143; (with_reducible refine (oid_root.calls (rd x4_2 0) (rd x4_2 1) true _ A19.out).mono ?_); rintro e w' ⟨rfl, ⟨nd, rfl⟩⟩; (try first | exact ⟨rfl, _, World.drewN_drewN _ _ _⟩ | exact ⟨rfl, _, Eq.trans (World.drewN_drewN _ _ _) (congrArg (World.drewN _) (Nat.add_assoc _ _ _))⟩))))
          go_ret
          exact ⟨_, by first | rfl | (simp [qu, qt] <;> rfl) | (simp [*, qu, qt] <;> rfl), by (with_reducible repeat (first | apply Kd.zh | apply Kd.zg | apply Kd.zr)); exact HO_4.out, by first | exact rfl | exact (fun _ => rfl) | exact (fun h_ => absurd c17b0 (by rw [h_]; decide)), by repeat (first | (with_reducible first | exact HB.out | apply qc | apply qb | apply qd) | exact HB.out)⟩
         ·replace c20 := Bool.eq_false_iff.mpr c20
          subst c20
          have H1 : (some ([] : List Int)) = some r := by rw [if_neg (show ¬ (false = true) by decide)] at H; exact H
          clear H
          have H := H1
          clear H1
          obtain rfl := Option.some.inj H
          obtain ⟨Ao22, co22, eo22⟩ := Kd.kj HO_4.out
          subst eo22
          have p109 : 0 ≤ (0 : Int) := yg
          have q109 : 0 < (x4_2.length : Int) := of_decide_eq_true cz
          obtain ⟨ad109, e109, hx109_0⟩ := Kd.at_int (Kd.xp HO_4.out).2.2 0 p109 q109
          cases e109
          have qi109 : (0 < x4_2.length) = True := eq_true yg
          (try rw [show ((0 : Int)).toNat = 0 from rfl] at hx109_0)
          (try rw [Addr.add_zero'] at hx109_0)
          replace p109 := eq_true p109
          replace q109 := eq_true q109
          have p110 : 0 ≤ (1 : Int) := yg
          have q110 : 1 < (x4_2.length : Int) := of_decide_eq_true cz
          obtain ⟨ad110, e110, hx110_0⟩ := Kd.at_int (Kd.xp HO_4.out).2.2 1 p110 q110
          obtain rfl : ad109 = ad110 := (by injection e110)
          (try simp only [show (1 : Int).toNat = 1 from rfl, Nat.reduceMul, Nat.reduceEqDiff, Go.Addr.add, ↓reduceIte] at hx110_0)
          have qi110 : (1 < x4_2.length) = True := eq_true yg
          (try rw [show ((1 : Int)).toNat = 1 from rfl] at hx110_0)
          replace p110 := eq_true p110
          replace q110 := eq_true q110
          go_wp2_with (first | (go_at_call 143; (with_reducible refine (oid_root.calls (rd x4_2 0) (rd x4_2 1) false _ A19.out).mono ?_); rintro e w' ⟨rfl, ⟨nd, rfl⟩⟩; (try first | exact ⟨rfl, _, World.drewN_drewN _ _ _⟩ | exact ⟨rfl, _, Eq.trans (World.drewN_drewN _ _ _) (congrArg (World.drewN _) (Nat.add_assoc _ _ _))⟩)))
          repeat (go_quiet (first | (go_at_call 143; (with_reducible refine (oid_root.calls (rd x4_2 0) (rd x4_2 1) false _ A19.out).mono ?_); rintro e w' ⟨rfl, ⟨nd, rfl⟩⟩; (try first | exact ⟨rfl, _, World.drewN_drewN _ _ _⟩ | exact ⟨rfl, _, Eq.trans (World.drewN_drewN _ _ _) (congrArg (World.drewN _) (Nat.add_assoc _ _ _))⟩))); try go_wp2_with (first | (go_at_call 143; (with_reducible refine (oid_root.calls (rd x4_2 0) (rd x4_2 1) false _ A19.out).mono ?_); rintro e w' ⟨rfl, ⟨nd, rfl⟩⟩; (try first | exact ⟨rfl, _, World.drewN_drewN _ _ _⟩ | exact ⟨rfl, _, Eq.trans (World.drewN_drewN _ _ _) (congrArg (World.drewN _) (Nat.add_assoc _ _ _))⟩))))
          go_ret
          exact ⟨_, by first | rfl | (simp [qu, qt] <;> rfl) | (simp [*, qu, qt] <;> rfl), by first | exact Kd.R_nil _ _ _ _ _ | exact Kd.N_nil _ _ _ _ _ | exact Kd.V_nil _ _ _ _ _ | exact Kd.Q_nil _ _ _ _ _ | exact Kd.S_nil _ _ _ _ _, by first | exact rfl | exact (fun _ => rfl) | exact (fun h_ => absurd c17b0 (by rw [h_]; decide)), by repeat (first | (with_reducible first | exact HB.out | apply qc | apply qb | apply qd) | exact HB.out)⟩
        ·rw [if_neg c18] at H
         exact absurd H yt
       ·rw [if_neg c17] at H
        exact absurd H yt
end Go.Proofs.YthdoohfdminfgaaGreatDoor.C
end
