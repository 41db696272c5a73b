/-
  DERIVED: THE SHELF's CONTRACTS AT THIS DUMP, IN PLAIN WORDS (tools/lay-plain.mjs out of 'YteaoiabikjnkeaaGreatDoorShelf2W.lean', which tools/lay-shelf.mjs wrote): THE SAME DECLARATIONS UNDER THE SAME NAMES: 'import', 'namespace', 'open', 'def', 'theorem' AND NOTHING ELSE: no command of the shelf's: FOR A HAND-IN. Each laying: the table of numbers ('.._ren') and one theorem, a field a fact of the dump's own or the kernel's comparison; each contract: ONE APPLICATION.
-/
import Derived.Ground.NamesProg
import Derived.Shelf.Sort.Plain
import Derived.Test.YteaoiabikjnkeaaGreatDoorProg
namespace Go.Proofs
open Go.Shelf
def Tryz.sortIL_ren : Go.Shelf.Ren := ⟨fun | 189 => 222 | 125 => 226 | 257 => 225 | 128 => 235 | 129 => 236 | 294 => 227 | 295 => 228 | 296 => 229 | 297 => 230 | 298 => 231 | 299 => 232 | 216 => 181 | 300 => 233 | 301 => 234 | 328 => 237 | 329 => 238 | 330 => 239 | 331 => 240 | 332 => 241 | 215 => 213 | 343 => 242 | n => n, fun | 28 => 67 | 3 => 3 | 46 => 316 | 0 => 0 | 51 => 359 | 53 => 361 | 4 => 4 | 183 => 353 | 182 => 352 | 131 => 258 | 5 => 5 | 9 => 9 | 218 => 362 | 222 => 366 | 228 => 368 | 229 => 254 | n => n, fun | n => n⟩
theorem Tryz.sortIL : Go.Proofs.Lays.n189 Tryz.prog Tryz.sortIL_ren := {
  mixed := by kernel_rfl
  f125 := Tryz.func226.trans (congrArg some (by kernel_rfl))
  f128 := Tryz.func235.trans (congrArg some (by kernel_rfl))
  f129 := Tryz.func236.trans (congrArg some (by kernel_rfl))
  f189 := Tryz.func222.trans (congrArg some (by kernel_rfl))
  f215 := Tryz.func213.trans (congrArg some (by kernel_rfl))
  f216 := Tryz.func181.trans (congrArg some (by kernel_rfl))
  f257 := Tryz.func225.trans (congrArg some (by kernel_rfl))
  f294 := Tryz.func227.trans (congrArg some (by kernel_rfl))
  f295 := Tryz.func228.trans (congrArg some (by kernel_rfl))
  f296 := Tryz.func229.trans (congrArg some (by kernel_rfl))
  f297 := Tryz.func230.trans (congrArg some (by kernel_rfl))
  f298 := Tryz.func231.trans (congrArg some (by kernel_rfl))
  f299 := Tryz.func232.trans (congrArg some (by kernel_rfl))
  f300 := Tryz.func233.trans (congrArg some (by kernel_rfl))
  f301 := Tryz.func234.trans (congrArg some (by kernel_rfl))
  f328 := Tryz.func237.trans (congrArg some (by kernel_rfl))
  f329 := Tryz.func238.trans (congrArg some (by kernel_rfl))
  f330 := Tryz.func239.trans (congrArg some (by kernel_rfl))
  f331 := Tryz.func240.trans (congrArg some (by kernel_rfl))
  f332 := Tryz.func241.trans (congrArg some (by kernel_rfl))
  f343 := Tryz.func242.trans (congrArg some (by kernel_rfl))
  t0 := Tryz.underlying0
  a0 := Tryz.isAgg0
  z0 := Tryz.sizeOf0
  v0 := Tryz.zeroValue0
  t3 := Tryz.underlying3
  a3 := Tryz.isAgg3
  z3 := Tryz.sizeOf3
  v3 := Tryz.zeroValue3
  t4 := Tryz.underlying4
  a4 := Tryz.isAgg4
  z4 := Tryz.sizeOf4
  v4 := Tryz.zeroValue4
  t5 := Tryz.underlying5
  a5 := Tryz.isAgg5
  z5 := Tryz.sizeOf5
  v5 := Tryz.zeroValue5
  t9 := Tryz.underlying9
  a9 := Tryz.isAgg9
  z9 := Tryz.sizeOf9
  v9 := Tryz.zeroValue9
  t28 := Tryz.underlying67
  a28 := Tryz.isAgg67
  z28 := Tryz.sizeOf67
  v28 := Tryz.zeroValue67
  t46 := Tryz.underlying316
  a46 := Tryz.isAgg316
  z46 := Tryz.sizeOf316
  v46 := Tryz.zeroValue316
  t51 := Tryz.underlying359
  a51 := Tryz.isAgg359
  z51 := Tryz.sizeOf359
  v51 := Tryz.zeroValue359
  t53 := Tryz.underlying361
  a53 := Tryz.isAgg361
  z53 := Tryz.sizeOf361
  v53 := Tryz.zeroValue361
  t131 := Tryz.underlying258
  a131 := Tryz.isAgg258
  z131 := Tryz.sizeOf258
  v131 := Tryz.zeroValue258
  t182 := Tryz.underlying352
  a182 := Tryz.isAgg352
  z182 := Tryz.sizeOf352
  v182 := Tryz.zeroValue352
  t183 := Tryz.underlying353
  a183 := Tryz.isAgg353
  z183 := Tryz.sizeOf353
  v183 := Tryz.zeroValue353
  t218 := Tryz.underlying362
  a218 := Tryz.isAgg362
  z218 := Tryz.sizeOf362
  v218 := Tryz.zeroValue362
  t222 := Tryz.underlying366
  a222 := Tryz.isAgg366
  z222 := Tryz.sizeOf366
  v222 := Tryz.zeroValue366
  t228 := Tryz.underlying368
  a228 := Tryz.isAgg368
  z228 := Tryz.sizeOf368
  v228 := Tryz.zeroValue368
  t229 := Tryz.underlying254
  a229 := Tryz.isAgg254
  z229 := Tryz.sizeOf254
  v229 := Tryz.zeroValue254 }
end Go.Proofs
