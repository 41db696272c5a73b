/-
  DERIVED: THE SHELF's CONTRACTS AT THIS DUMP, IN PLAIN WORDS (tools/lay-plain.mjs out of 'YtdheeddnkdhfeaaGreatDoorShelfW.lean', which tools/lay-shelf.mjs wrote): THE SAME DECLARATIONS UNDER THE SAME NAMES: 'import', 'namespace', 'open', 'def', 'theorem' AND NOTHING ELSE: no command of the shelf's: FOR A HAND-IN. Each laying: the table of numbers ('.._ren') and one theorem, a field a fact of the dump's own or the kernel's comparison; each contract: ONE APPLICATION.
-/
import Derived.Ground.Names2Prog
import Derived.Shelf.Slices.CompactI
import Derived.Shelf.Slices.SearchI
import Derived.Shelf.Slices.Empties
import Derived.Test.YtdheeddnkdhfeaaGreatDoorProg
namespace Go.Proofs
open Go.Shelf
def Tryz.compactL_ren : Go.Shelf.Ren := ⟨fun | 20 => 197 | n => n, fun | 22 => 61 | 3 => 3 | 4 => 4 | 0 => 0 | n => n, fun | n => n⟩
theorem Tryz.compactL : Go.Proofs.Lays2.n20 Tryz.prog Tryz.compactL_ren := {
  mixed := by kernel_rfl
  f20 := Tryz.func197.trans (congrArg some (by kernel_rfl))
  t0 := Tryz.underlying0
  a0 := Tryz.isAgg0
  z0 := Tryz.sizeOf0
  v0 := Tryz.zeroValue0
  t3 := Tryz.underlying3
  a3 := Tryz.isAgg3
  z3 := Tryz.sizeOf3
  v3 := Tryz.zeroValue3
  t4 := Tryz.underlying4
  a4 := Tryz.isAgg4
  z4 := Tryz.sizeOf4
  v4 := Tryz.zeroValue4
  t22 := Tryz.underlying61
  a22 := Tryz.isAgg61
  z22 := Tryz.sizeOf61
  v22 := Tryz.zeroValue61
  i3 := by kernel_rfl }
def Tryz.searchL_ren : Go.Shelf.Ren := ⟨fun | 25 => 118 | 31 => 161 | 32 => 162 | 37 => 188 | n => n, fun | 22 => 61 | 3 => 3 | 4 => 4 | 40 => 277 | 0 => 0 | n => n, fun | n => n⟩
theorem Tryz.searchL : Go.Proofs.Lays2.n25 Tryz.prog Tryz.searchL_ren := {
  mixed := by kernel_rfl
  f25 := Tryz.func118.trans (congrArg some (by kernel_rfl))
  f31 := Tryz.func161.trans (congrArg some (by kernel_rfl))
  f32 := Tryz.func162.trans (congrArg some (by kernel_rfl))
  f37 := Tryz.func188.trans (congrArg some (by kernel_rfl))
  t0 := Tryz.underlying0
  a0 := Tryz.isAgg0
  z0 := Tryz.sizeOf0
  v0 := Tryz.zeroValue0
  t3 := Tryz.underlying3
  a3 := Tryz.isAgg3
  z3 := Tryz.sizeOf3
  v3 := Tryz.zeroValue3
  t4 := Tryz.underlying4
  a4 := Tryz.isAgg4
  z4 := Tryz.sizeOf4
  v4 := Tryz.zeroValue4
  t22 := Tryz.underlying61
  a22 := Tryz.isAgg61
  z22 := Tryz.sizeOf61
  v22 := Tryz.zeroValue61
  t40 := Tryz.underlying277
  a40 := Tryz.isAgg277
  z40 := Tryz.sizeOf277
  v40 := Tryz.zeroValue277 }
end Go.Proofs
