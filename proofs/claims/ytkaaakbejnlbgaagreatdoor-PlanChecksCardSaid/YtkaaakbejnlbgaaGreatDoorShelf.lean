/-
  DERIVED: THE SHELF's CONTRACTS AT THIS DUMP, IN PLAIN WORDS (tools/lay-plain.mjs out of 'YtkaaakbejnlbgaaGreatDoorShelfW.lean', which tools/lay-shelf.mjs wrote): THE SAME DECLARATIONS UNDER THE SAME NAMES: 'import', 'namespace', 'open', 'def', 'theorem' AND NOTHING ELSE: no command of the shelf's: FOR A HAND-IN. Each laying: the table of numbers ('.._ren') and one theorem, a field a fact of the dump's own or the kernel's comparison; each contract: ONE APPLICATION.
-/
import Derived.Ground.Names2Prog
import Derived.Shelf.Slices.CompactI
import Derived.Shelf.Slices.SearchI
import Derived.Shelf.Slices.Empties
import Derived.Test.YtkaaakbejnlbgaaGreatDoorProg
namespace Go.Proofs
open Go.Shelf
def Tryz.compactL_ren : Go.Shelf.Ren := ⟨fun | 20 => 239 | n => n, fun | 22 => 64 | 3 => 3 | 4 => 4 | 0 => 0 | n => n, fun | n => n⟩
theorem Tryz.compactL : Go.Proofs.Lays2.n20 Tryz.prog Tryz.compactL_ren := {
  mixed := by kernel_rfl
  f20 := Tryz.func239.trans (congrArg some (by kernel_rfl))
  t0 := Tryz.underlying0
  a0 := Tryz.isAgg0
  z0 := Tryz.sizeOf0
  v0 := Tryz.zeroValue0
  t3 := Tryz.underlying3
  a3 := Tryz.isAgg3
  z3 := Tryz.sizeOf3
  v3 := Tryz.zeroValue3
  t4 := Tryz.underlying4
  a4 := Tryz.isAgg4
  z4 := Tryz.sizeOf4
  v4 := Tryz.zeroValue4
  t22 := Tryz.underlying64
  a22 := Tryz.isAgg64
  z22 := Tryz.sizeOf64
  v22 := Tryz.zeroValue64
  i3 := by kernel_rfl }
def Tryz.searchL_ren : Go.Shelf.Ren := ⟨fun | 25 => 219 | 31 => 236 | 32 => 237 | 37 => 144 | n => n, fun | 22 => 64 | 3 => 3 | 4 => 4 | 40 => 247 | 0 => 0 | n => n, fun | n => n⟩
theorem Tryz.searchL : Go.Proofs.Lays2.n25 Tryz.prog Tryz.searchL_ren := {
  mixed := by kernel_rfl
  f25 := Tryz.func219.trans (congrArg some (by kernel_rfl))
  f31 := Tryz.func236.trans (congrArg some (by kernel_rfl))
  f32 := Tryz.func237.trans (congrArg some (by kernel_rfl))
  f37 := Tryz.func144.trans (congrArg some (by kernel_rfl))
  t0 := Tryz.underlying0
  a0 := Tryz.isAgg0
  z0 := Tryz.sizeOf0
  v0 := Tryz.zeroValue0
  t3 := Tryz.underlying3
  a3 := Tryz.isAgg3
  z3 := Tryz.sizeOf3
  v3 := Tryz.zeroValue3
  t4 := Tryz.underlying4
  a4 := Tryz.isAgg4
  z4 := Tryz.sizeOf4
  v4 := Tryz.zeroValue4
  t22 := Tryz.underlying64
  a22 := Tryz.isAgg64
  z22 := Tryz.sizeOf64
  v22 := Tryz.zeroValue64
  t40 := Tryz.underlying247
  a40 := Tryz.isAgg247
  z40 := Tryz.sizeOf247
  v40 := Tryz.zeroValue247 }
end Go.Proofs
