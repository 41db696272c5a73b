/-
  DERIVED: THE SHELF's CONTRACTS AT THIS DUMP, IN PLAIN WORDS (tools/lay-plain.mjs out of 'YtdheeddnkdhfeaaGreatDoorShelf2W.lean', which tools/lay-shelf.mjs wrote): THE SAME DECLARATIONS UNDER THE SAME NAMES: 'import', 'namespace', 'open', 'def', 'theorem' AND NOTHING ELSE: no command of the shelf's: FOR A HAND-IN. Each laying: the table of numbers ('.._ren') and one theorem, a field a fact of the dump's own or the kernel's comparison; each contract: ONE APPLICATION.
-/
import Derived.Ground.NamesProg
import Derived.Shelf.Sort.Plain
import Derived.Test.YtdheeddnkdhfeaaGreatDoorProg
namespace Go.Proofs
open Go.Shelf
def Tryz.sortIL_ren : Go.Shelf.Ren := ⟨fun | 189 => 196 | 125 => 200 | 257 => 199 | 128 => 209 | 129 => 210 | 294 => 201 | 295 => 202 | 296 => 203 | 297 => 204 | 298 => 205 | 299 => 206 | 216 => 161 | 300 => 207 | 301 => 208 | 328 => 211 | 329 => 212 | 330 => 213 | 331 => 214 | 332 => 215 | 215 => 188 | 343 => 216 | n => n, fun | 28 => 61 | 3 => 3 | 46 => 277 | 0 => 0 | 51 => 325 | 53 => 327 | 4 => 4 | 183 => 319 | 182 => 318 | 131 => 222 | 5 => 5 | 9 => 9 | 218 => 328 | 222 => 332 | 228 => 334 | 229 => 219 | n => n, fun | n => n⟩
theorem Tryz.sortIL : Go.Proofs.Lays.n189 Tryz.prog Tryz.sortIL_ren := {
  mixed := by kernel_rfl
  f125 := Tryz.func200.trans (congrArg some (by kernel_rfl))
  f128 := Tryz.func209.trans (congrArg some (by kernel_rfl))
  f129 := Tryz.func210.trans (congrArg some (by kernel_rfl))
  f189 := Tryz.func196.trans (congrArg some (by kernel_rfl))
  f215 := Tryz.func188.trans (congrArg some (by kernel_rfl))
  f216 := Tryz.func161.trans (congrArg some (by kernel_rfl))
  f257 := Tryz.func199.trans (congrArg some (by kernel_rfl))
  f294 := Tryz.func201.trans (congrArg some (by kernel_rfl))
  f295 := Tryz.func202.trans (congrArg some (by kernel_rfl))
  f296 := Tryz.func203.trans (congrArg some (by kernel_rfl))
  f297 := Tryz.func204.trans (congrArg some (by kernel_rfl))
  f298 := Tryz.func205.trans (congrArg some (by kernel_rfl))
  f299 := Tryz.func206.trans (congrArg some (by kernel_rfl))
  f300 := Tryz.func207.trans (congrArg some (by kernel_rfl))
  f301 := Tryz.func208.trans (congrArg some (by kernel_rfl))
  f328 := Tryz.func211.trans (congrArg some (by kernel_rfl))
  f329 := Tryz.func212.trans (congrArg some (by kernel_rfl))
  f330 := Tryz.func213.trans (congrArg some (by kernel_rfl))
  f331 := Tryz.func214.trans (congrArg some (by kernel_rfl))
  f332 := Tryz.func215.trans (congrArg some (by kernel_rfl))
  f343 := Tryz.func216.trans (congrArg some (by kernel_rfl))
  t0 := Tryz.underlying0
  a0 := Tryz.isAgg0
  z0 := Tryz.sizeOf0
  v0 := Tryz.zeroValue0
  t3 := Tryz.underlying3
  a3 := Tryz.isAgg3
  z3 := Tryz.sizeOf3
  v3 := Tryz.zeroValue3
  t4 := Tryz.underlying4
  a4 := Tryz.isAgg4
  z4 := Tryz.sizeOf4
  v4 := Tryz.zeroValue4
  t5 := Tryz.underlying5
  a5 := Tryz.isAgg5
  z5 := Tryz.sizeOf5
  v5 := Tryz.zeroValue5
  t9 := Tryz.underlying9
  a9 := Tryz.isAgg9
  z9 := Tryz.sizeOf9
  v9 := Tryz.zeroValue9
  t28 := Tryz.underlying61
  a28 := Tryz.isAgg61
  z28 := Tryz.sizeOf61
  v28 := Tryz.zeroValue61
  t46 := Tryz.underlying277
  a46 := Tryz.isAgg277
  z46 := Tryz.sizeOf277
  v46 := Tryz.zeroValue277
  t51 := Tryz.underlying325
  a51 := Tryz.isAgg325
  z51 := Tryz.sizeOf325
  v51 := Tryz.zeroValue325
  t53 := Tryz.underlying327
  a53 := Tryz.isAgg327
  z53 := Tryz.sizeOf327
  v53 := Tryz.zeroValue327
  t131 := Tryz.underlying222
  a131 := Tryz.isAgg222
  z131 := Tryz.sizeOf222
  v131 := Tryz.zeroValue222
  t182 := Tryz.underlying318
  a182 := Tryz.isAgg318
  z182 := Tryz.sizeOf318
  v182 := Tryz.zeroValue318
  t183 := Tryz.underlying319
  a183 := Tryz.isAgg319
  z183 := Tryz.sizeOf319
  v183 := Tryz.zeroValue319
  t218 := Tryz.underlying328
  a218 := Tryz.isAgg328
  z218 := Tryz.sizeOf328
  v218 := Tryz.zeroValue328
  t222 := Tryz.underlying332
  a222 := Tryz.isAgg332
  z222 := Tryz.sizeOf332
  v222 := Tryz.zeroValue332
  t228 := Tryz.underlying334
  a228 := Tryz.isAgg334
  z228 := Tryz.sizeOf334
  v228 := Tryz.zeroValue334
  t229 := Tryz.underlying219
  a229 := Tryz.isAgg219
  z229 := Tryz.sizeOf219
  v229 := Tryz.zeroValue219 }
end Go.Proofs
