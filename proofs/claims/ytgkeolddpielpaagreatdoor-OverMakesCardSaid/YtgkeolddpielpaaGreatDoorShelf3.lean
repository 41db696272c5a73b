/-
  DERIVED: THE SHELF's CONTRACTS AT THIS DUMP, IN PLAIN WORDS (tools/lay-plain.mjs out of 'YtgkeolddpielpaaGreatDoorShelf3W.lean', which tools/lay-shelf.mjs wrote): THE SAME DECLARATIONS UNDER THE SAME NAMES: 'import', 'namespace', 'open', 'def', 'theorem' AND NOTHING ELSE: no command of the shelf's: FOR A HAND-IN. Each laying: the table of numbers ('.._ren') and one theorem, a field a fact of the dump's own or the kernel's comparison; each contract: ONE APPLICATION.
-/
import Derived.Ground.SlsoProg
import Derived.Shelf.SlSorted.Search
import Derived.Test.YtgkeolddpielpaaGreatDoorProg
namespace Go.Proofs
open Go.Shelf
def Tryz.seekL_ren : Go.Shelf.Ren := ⟨fun | 16 => 52 | n => n, fun | 3 => 3 | 35 => 113 | 4 => 4 | 38 => 165 | n => n, fun | n => n⟩
theorem Tryz.seekL : Go.Proofs.SlLaysO.n16 Tryz.prog Tryz.seekL_ren := {
  mixed := by kernel_rfl
  f16 := Tryz.func52.trans (congrArg some (by kernel_rfl))
  t3 := Tryz.underlying3
  a3 := Tryz.isAgg3
  z3 := Tryz.sizeOf3
  v3 := Tryz.zeroValue3
  t4 := Tryz.underlying4
  a4 := Tryz.isAgg4
  z4 := Tryz.sizeOf4
  v4 := Tryz.zeroValue4
  t35 := Tryz.underlying113
  a35 := Tryz.isAgg113
  z35 := Tryz.sizeOf113
  v35 := Tryz.zeroValue113
  t38 := Tryz.underlying165
  a38 := Tryz.isAgg165
  z38 := Tryz.sizeOf165
  v38 := Tryz.zeroValue165 }
end Go.Proofs
