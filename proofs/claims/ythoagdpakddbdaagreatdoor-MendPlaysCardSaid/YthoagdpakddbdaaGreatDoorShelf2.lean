/-
  DERIVED: THE SHELF's CONTRACTS AT THIS DUMP, IN PLAIN WORDS (tools/lay-plain.mjs out of 'YthoagdpakddbdaaGreatDoorShelf2W.lean', which tools/lay-shelf.mjs wrote): THE SAME DECLARATIONS UNDER THE SAME NAMES: 'import', 'namespace', 'open', 'def', 'theorem' AND NOTHING ELSE: no command of the shelf's: FOR A HAND-IN. Each laying: the table of numbers ('.._ren') and one theorem, a field a fact of the dump's own or the kernel's comparison; each contract: ONE APPLICATION.
-/
import Derived.Ground.NamesProg
import Derived.Shelf.Sort.Plain
import Derived.Test.YthoagdpakddbdaaGreatDoorProg
namespace Go.Proofs
open Go.Shelf
def Tryz.sortIL_ren : Go.Shelf.Ren := ⟨fun | 189 => 169 | 125 => 173 | 257 => 172 | 128 => 182 | 129 => 183 | 294 => 174 | 295 => 175 | 296 => 176 | 297 => 177 | 298 => 178 | 299 => 179 | 216 => 166 | 300 => 180 | 301 => 181 | 328 => 184 | 329 => 185 | 330 => 186 | 331 => 187 | 332 => 188 | 215 => 171 | 343 => 189 | n => n, fun | 28 => 93 | 3 => 3 | 46 => 274 | 0 => 0 | 51 => 286 | 53 => 288 | 4 => 4 | 183 => 280 | 182 => 279 | 131 => 200 | 5 => 5 | 9 => 9 | 218 => 289 | 222 => 293 | 228 => 295 | 229 => 296 | n => n, fun | n => n⟩
theorem Tryz.sortIL : Go.Proofs.Lays.n189 Tryz.prog Tryz.sortIL_ren := {
  mixed := by kernel_rfl
  f125 := Tryz.func173.trans (congrArg some (by kernel_rfl))
  f128 := Tryz.func182.trans (congrArg some (by kernel_rfl))
  f129 := Tryz.func183.trans (congrArg some (by kernel_rfl))
  f189 := Tryz.func169.trans (congrArg some (by kernel_rfl))
  f215 := Tryz.func171.trans (congrArg some (by kernel_rfl))
  f216 := Tryz.func166.trans (congrArg some (by kernel_rfl))
  f257 := Tryz.func172.trans (congrArg some (by kernel_rfl))
  f294 := Tryz.func174.trans (congrArg some (by kernel_rfl))
  f295 := Tryz.func175.trans (congrArg some (by kernel_rfl))
  f296 := Tryz.func176.trans (congrArg some (by kernel_rfl))
  f297 := Tryz.func177.trans (congrArg some (by kernel_rfl))
  f298 := Tryz.func178.trans (congrArg some (by kernel_rfl))
  f299 := Tryz.func179.trans (congrArg some (by kernel_rfl))
  f300 := Tryz.func180.trans (congrArg some (by kernel_rfl))
  f301 := Tryz.func181.trans (congrArg some (by kernel_rfl))
  f328 := Tryz.func184.trans (congrArg some (by kernel_rfl))
  f329 := Tryz.func185.trans (congrArg some (by kernel_rfl))
  f330 := Tryz.func186.trans (congrArg some (by kernel_rfl))
  f331 := Tryz.func187.trans (congrArg some (by kernel_rfl))
  f332 := Tryz.func188.trans (congrArg some (by kernel_rfl))
  f343 := Tryz.func189.trans (congrArg some (by kernel_rfl))
  t0 := Tryz.underlying0
  a0 := Tryz.isAgg0
  z0 := Tryz.sizeOf0
  v0 := Tryz.zeroValue0
  t3 := Tryz.underlying3
  a3 := Tryz.isAgg3
  z3 := Tryz.sizeOf3
  v3 := Tryz.zeroValue3
  t4 := Tryz.underlying4
  a4 := Tryz.isAgg4
  z4 := Tryz.sizeOf4
  v4 := Tryz.zeroValue4
  t5 := Tryz.underlying5
  a5 := Tryz.isAgg5
  z5 := Tryz.sizeOf5
  v5 := Tryz.zeroValue5
  t9 := Tryz.underlying9
  a9 := Tryz.isAgg9
  z9 := Tryz.sizeOf9
  v9 := Tryz.zeroValue9
  t28 := Tryz.underlying93
  a28 := Tryz.isAgg93
  z28 := Tryz.sizeOf93
  v28 := Tryz.zeroValue93
  t46 := Tryz.underlying274
  a46 := Tryz.isAgg274
  z46 := Tryz.sizeOf274
  v46 := Tryz.zeroValue274
  t51 := Tryz.underlying286
  a51 := Tryz.isAgg286
  z51 := Tryz.sizeOf286
  v51 := Tryz.zeroValue286
  t53 := Tryz.underlying288
  a53 := Tryz.isAgg288
  z53 := Tryz.sizeOf288
  v53 := Tryz.zeroValue288
  t131 := Tryz.underlying200
  a131 := Tryz.isAgg200
  z131 := Tryz.sizeOf200
  v131 := Tryz.zeroValue200
  t182 := Tryz.underlying279
  a182 := Tryz.isAgg279
  z182 := Tryz.sizeOf279
  v182 := Tryz.zeroValue279
  t183 := Tryz.underlying280
  a183 := Tryz.isAgg280
  z183 := Tryz.sizeOf280
  v183 := Tryz.zeroValue280
  t218 := Tryz.underlying289
  a218 := Tryz.isAgg289
  z218 := Tryz.sizeOf289
  v218 := Tryz.zeroValue289
  t222 := Tryz.underlying293
  a222 := Tryz.isAgg293
  z222 := Tryz.sizeOf293
  v222 := Tryz.zeroValue293
  t228 := Tryz.underlying295
  a228 := Tryz.isAgg295
  z228 := Tryz.sizeOf295
  v228 := Tryz.zeroValue295
  t229 := Tryz.underlying296
  a229 := Tryz.isAgg296
  z229 := Tryz.sizeOf296
  v229 := Tryz.zeroValue296 }
end Go.Proofs
