/-
  DERIVED: THE SHELF's CONTRACTS AT THIS DUMP, IN PLAIN WORDS (tools/lay-plain.mjs out of 'YtgkeolddpielpaaGreatDoorShelf2W.lean', which tools/lay-shelf.mjs wrote): THE SAME DECLARATIONS UNDER THE SAME NAMES: 'import', 'namespace', 'open', 'def', 'theorem' AND NOTHING ELSE: no command of the shelf's: FOR A HAND-IN. Each laying: the table of numbers ('.._ren') and one theorem, a field a fact of the dump's own or the kernel's comparison; each contract: ONE APPLICATION.
-/
import Derived.Ground.NamesProg
import Derived.Shelf.Sort.Plain
import Derived.Test.YtgkeolddpielpaaGreatDoorProg
namespace Go.Proofs
open Go.Shelf
def Tryz.sortIL_ren : Go.Shelf.Ren := ⟨fun | 189 => 89 | 125 => 110 | 257 => 109 | 128 => 122 | 129 => 123 | 294 => 114 | 295 => 115 | 296 => 116 | 297 => 117 | 298 => 118 | 299 => 119 | 216 => 107 | 300 => 120 | 301 => 121 | 328 => 124 | 329 => 125 | 330 => 126 | 331 => 127 | 332 => 128 | 215 => 113 | 343 => 129 | n => n, fun | 28 => 47 | 3 => 3 | 46 => 165 | 0 => 0 | 51 => 211 | 53 => 213 | 4 => 4 | 183 => 205 | 182 => 204 | 131 => 167 | 5 => 5 | 9 => 9 | 218 => 214 | 222 => 218 | 228 => 220 | 229 => 71 | n => n, fun | n => n⟩
theorem Tryz.sortIL : Go.Proofs.Lays.n189 Tryz.prog Tryz.sortIL_ren := {
  mixed := by kernel_rfl
  f125 := Tryz.func110.trans (congrArg some (by kernel_rfl))
  f128 := Tryz.func122.trans (congrArg some (by kernel_rfl))
  f129 := Tryz.func123.trans (congrArg some (by kernel_rfl))
  f189 := Tryz.func89.trans (congrArg some (by kernel_rfl))
  f215 := Tryz.func113.trans (congrArg some (by kernel_rfl))
  f216 := Tryz.func107.trans (congrArg some (by kernel_rfl))
  f257 := Tryz.func109.trans (congrArg some (by kernel_rfl))
  f294 := Tryz.func114.trans (congrArg some (by kernel_rfl))
  f295 := Tryz.func115.trans (congrArg some (by kernel_rfl))
  f296 := Tryz.func116.trans (congrArg some (by kernel_rfl))
  f297 := Tryz.func117.trans (congrArg some (by kernel_rfl))
  f298 := Tryz.func118.trans (congrArg some (by kernel_rfl))
  f299 := Tryz.func119.trans (congrArg some (by kernel_rfl))
  f300 := Tryz.func120.trans (congrArg some (by kernel_rfl))
  f301 := Tryz.func121.trans (congrArg some (by kernel_rfl))
  f328 := Tryz.func124.trans (congrArg some (by kernel_rfl))
  f329 := Tryz.func125.trans (congrArg some (by kernel_rfl))
  f330 := Tryz.func126.trans (congrArg some (by kernel_rfl))
  f331 := Tryz.func127.trans (congrArg some (by kernel_rfl))
  f332 := Tryz.func128.trans (congrArg some (by kernel_rfl))
  f343 := Tryz.func129.trans (congrArg some (by kernel_rfl))
  t0 := Tryz.underlying0
  a0 := Tryz.isAgg0
  z0 := Tryz.sizeOf0
  v0 := Tryz.zeroValue0
  t3 := Tryz.underlying3
  a3 := Tryz.isAgg3
  z3 := Tryz.sizeOf3
  v3 := Tryz.zeroValue3
  t4 := Tryz.underlying4
  a4 := Tryz.isAgg4
  z4 := Tryz.sizeOf4
  v4 := Tryz.zeroValue4
  t5 := Tryz.underlying5
  a5 := Tryz.isAgg5
  z5 := Tryz.sizeOf5
  v5 := Tryz.zeroValue5
  t9 := Tryz.underlying9
  a9 := Tryz.isAgg9
  z9 := Tryz.sizeOf9
  v9 := Tryz.zeroValue9
  t28 := Tryz.underlying47
  a28 := Tryz.isAgg47
  z28 := Tryz.sizeOf47
  v28 := Tryz.zeroValue47
  t46 := Tryz.underlying165
  a46 := Tryz.isAgg165
  z46 := Tryz.sizeOf165
  v46 := Tryz.zeroValue165
  t51 := Tryz.underlying211
  a51 := Tryz.isAgg211
  z51 := Tryz.sizeOf211
  v51 := Tryz.zeroValue211
  t53 := Tryz.underlying213
  a53 := Tryz.isAgg213
  z53 := Tryz.sizeOf213
  v53 := Tryz.zeroValue213
  t131 := Tryz.underlying167
  a131 := Tryz.isAgg167
  z131 := Tryz.sizeOf167
  v131 := Tryz.zeroValue167
  t182 := Tryz.underlying204
  a182 := Tryz.isAgg204
  z182 := Tryz.sizeOf204
  v182 := Tryz.zeroValue204
  t183 := Tryz.underlying205
  a183 := Tryz.isAgg205
  z183 := Tryz.sizeOf205
  v183 := Tryz.zeroValue205
  t218 := Tryz.underlying214
  a218 := Tryz.isAgg214
  z218 := Tryz.sizeOf214
  v218 := Tryz.zeroValue214
  t222 := Tryz.underlying218
  a222 := Tryz.isAgg218
  z222 := Tryz.sizeOf218
  v222 := Tryz.zeroValue218
  t228 := Tryz.underlying220
  a228 := Tryz.isAgg220
  z228 := Tryz.sizeOf220
  v228 := Tryz.zeroValue220
  t229 := Tryz.underlying71
  a229 := Tryz.isAgg71
  z229 := Tryz.sizeOf71
  v229 := Tryz.zeroValue71 }
end Go.Proofs
