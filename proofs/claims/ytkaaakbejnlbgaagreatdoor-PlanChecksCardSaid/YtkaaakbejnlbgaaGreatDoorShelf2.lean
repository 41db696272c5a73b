/-
  DERIVED: THE SHELF's CONTRACTS AT THIS DUMP, IN PLAIN WORDS (tools/lay-plain.mjs out of 'YtkaaakbejnlbgaaGreatDoorShelf2W.lean', which tools/lay-shelf.mjs wrote): THE SAME DECLARATIONS UNDER THE SAME NAMES: 'import', 'namespace', 'open', 'def', 'theorem' AND NOTHING ELSE: no command of the shelf's: FOR A HAND-IN. Each laying: the table of numbers ('.._ren') and one theorem, a field a fact of the dump's own or the kernel's comparison; each contract: ONE APPLICATION.
-/
import Derived.Ground.NamesProg
import Derived.Shelf.Sort.Plain
import Derived.Shelf.Spec.SlicesGrow
import Derived.Ground.Names8Prog
import Derived.Shelf.SlicesE.Delete
import Derived.Ground.SlgnProg
import Derived.Test.YtkaaakbejnlbgaaGreatDoorProg
namespace Go.Proofs
open Go.Shelf
def Tryz.sortIL_ren : Go.Shelf.Ren := ⟨fun | 189 => 238 | 125 => 143 | 257 => 244 | 128 => 204 | 129 => 205 | 294 => 246 | 295 => 247 | 296 => 248 | 297 => 249 | 298 => 250 | 299 => 251 | 216 => 236 | 300 => 252 | 301 => 253 | 328 => 254 | 329 => 231 | 330 => 232 | 331 => 255 | 332 => 256 | 215 => 144 | 343 => 257 | n => n, fun | 28 => 64 | 3 => 3 | 46 => 247 | 0 => 0 | 51 => 319 | 53 => 321 | 4 => 4 | 183 => 313 | 182 => 312 | 131 => 235 | 5 => 5 | 9 => 9 | 218 => 340 | 222 => 344 | 228 => 348 | 229 => 349 | n => n, fun | n => n⟩
theorem Tryz.sortIL : Go.Proofs.Lays.n189 Tryz.prog Tryz.sortIL_ren := {
  mixed := by kernel_rfl
  f125 := Tryz.func143.trans (congrArg some (by kernel_rfl))
  f128 := Tryz.func204.trans (congrArg some (by kernel_rfl))
  f129 := Tryz.func205.trans (congrArg some (by kernel_rfl))
  f189 := Tryz.func238.trans (congrArg some (by kernel_rfl))
  f215 := Tryz.func144.trans (congrArg some (by kernel_rfl))
  f216 := Tryz.func236.trans (congrArg some (by kernel_rfl))
  f257 := Tryz.func244.trans (congrArg some (by kernel_rfl))
  f294 := Tryz.func246.trans (congrArg some (by kernel_rfl))
  f295 := Tryz.func247.trans (congrArg some (by kernel_rfl))
  f296 := Tryz.func248.trans (congrArg some (by kernel_rfl))
  f297 := Tryz.func249.trans (congrArg some (by kernel_rfl))
  f298 := Tryz.func250.trans (congrArg some (by kernel_rfl))
  f299 := Tryz.func251.trans (congrArg some (by kernel_rfl))
  f300 := Tryz.func252.trans (congrArg some (by kernel_rfl))
  f301 := Tryz.func253.trans (congrArg some (by kernel_rfl))
  f328 := Tryz.func254.trans (congrArg some (by kernel_rfl))
  f329 := Tryz.func231.trans (congrArg some (by kernel_rfl))
  f330 := Tryz.func232.trans (congrArg some (by kernel_rfl))
  f331 := Tryz.func255.trans (congrArg some (by kernel_rfl))
  f332 := Tryz.func256.trans (congrArg some (by kernel_rfl))
  f343 := Tryz.func257.trans (congrArg some (by kernel_rfl))
  t0 := Tryz.underlying0
  a0 := Tryz.isAgg0
  z0 := Tryz.sizeOf0
  v0 := Tryz.zeroValue0
  t3 := Tryz.underlying3
  a3 := Tryz.isAgg3
  z3 := Tryz.sizeOf3
  v3 := Tryz.zeroValue3
  t4 := Tryz.underlying4
  a4 := Tryz.isAgg4
  z4 := Tryz.sizeOf4
  v4 := Tryz.zeroValue4
  t5 := Tryz.underlying5
  a5 := Tryz.isAgg5
  z5 := Tryz.sizeOf5
  v5 := Tryz.zeroValue5
  t9 := Tryz.underlying9
  a9 := Tryz.isAgg9
  z9 := Tryz.sizeOf9
  v9 := Tryz.zeroValue9
  t28 := Tryz.underlying64
  a28 := Tryz.isAgg64
  z28 := Tryz.sizeOf64
  v28 := Tryz.zeroValue64
  t46 := Tryz.underlying247
  a46 := Tryz.isAgg247
  z46 := Tryz.sizeOf247
  v46 := Tryz.zeroValue247
  t51 := Tryz.underlying319
  a51 := Tryz.isAgg319
  z51 := Tryz.sizeOf319
  v51 := Tryz.zeroValue319
  t53 := Tryz.underlying321
  a53 := Tryz.isAgg321
  z53 := Tryz.sizeOf321
  v53 := Tryz.zeroValue321
  t131 := Tryz.underlying235
  a131 := Tryz.isAgg235
  z131 := Tryz.sizeOf235
  v131 := Tryz.zeroValue235
  t182 := Tryz.underlying312
  a182 := Tryz.isAgg312
  z182 := Tryz.sizeOf312
  v182 := Tryz.zeroValue312
  t183 := Tryz.underlying313
  a183 := Tryz.isAgg313
  z183 := Tryz.sizeOf313
  v183 := Tryz.zeroValue313
  t218 := Tryz.underlying340
  a218 := Tryz.isAgg340
  z218 := Tryz.sizeOf340
  v218 := Tryz.zeroValue340
  t222 := Tryz.underlying344
  a222 := Tryz.isAgg344
  z222 := Tryz.sizeOf344
  v222 := Tryz.zeroValue344
  t228 := Tryz.underlying348
  a228 := Tryz.isAgg348
  z228 := Tryz.sizeOf348
  v228 := Tryz.zeroValue348
  t229 := Tryz.underlying349
  a229 := Tryz.isAgg349
  z229 := Tryz.sizeOf349
  v229 := Tryz.zeroValue349 }
def Tryz.growI_ren : Go.Shelf.Ren := ⟨fun | 4 => 141 | n => n, fun | 22 => 64 | 25 => 3 | 3 => 3 | 4 => 4 | 9 => 9 | 20 => 20 | 0 => 0 | n => n, fun | n => n⟩
theorem Tryz.growI : Go.Proofs.Lays8.n4 Tryz.prog Tryz.growI_ren := {
  mixed := by kernel_rfl
  f4 := ⟨Tryz.f141.name, by decide, Tryz.func141.trans (congrArg some (by kernel_rfl))⟩
  t0 := Tryz.underlying0
  a0 := Tryz.isAgg0
  z0 := Tryz.sizeOf0
  v0 := Tryz.zeroValue0
  t3 := Tryz.underlying3
  a3 := Tryz.isAgg3
  z3 := Tryz.sizeOf3
  v3 := Tryz.zeroValue3
  t4 := Tryz.underlying4
  a4 := Tryz.isAgg4
  z4 := Tryz.sizeOf4
  v4 := Tryz.zeroValue4
  t9 := Tryz.underlying9
  a9 := Tryz.isAgg9
  z9 := Tryz.sizeOf9
  v9 := Tryz.zeroValue9
  t20 := Tryz.underlying20
  a20 := Tryz.isAgg20
  z20 := Tryz.sizeOf20
  v20 := Tryz.zeroValue20
  t22 := Tryz.underlying64
  a22 := Tryz.isAgg64
  z22 := Tryz.sizeOf64
  v22 := Tryz.zeroValue64 }
def Tryz.delRow_ren : Go.Shelf.Ren := ⟨fun | 45 => 87 | n => n, fun | 22 => 27 | 23 => 64 | 3 => 3 | 4 => 4 | 0 => 0 | n => n, fun | n => n⟩
theorem Tryz.delRow : Go.Proofs.SlLaysE.n45 Tryz.prog Tryz.delRow_ren := {
  mixed := by kernel_rfl
  f45 := ⟨Tryz.f87.name, by decide, Tryz.func87.trans (congrArg some (by kernel_rfl))⟩
  t0 := Tryz.underlying0
  a0 := Tryz.isAgg0
  z0 := Tryz.sizeOf0
  v0 := Tryz.zeroValue0
  t3 := Tryz.underlying3
  a3 := Tryz.isAgg3
  z3 := Tryz.sizeOf3
  v3 := Tryz.zeroValue3
  t4 := Tryz.underlying4
  a4 := Tryz.isAgg4
  z4 := Tryz.sizeOf4
  v4 := Tryz.zeroValue4
  t22 := Tryz.underlying27
  a22 := Tryz.isAgg27
  z22 := Tryz.sizeOf27
  v22 := Tryz.zeroValue27
  a23 := Tryz.isAgg64
  z23 := Tryz.sizeOf64 }
end Go.Proofs
