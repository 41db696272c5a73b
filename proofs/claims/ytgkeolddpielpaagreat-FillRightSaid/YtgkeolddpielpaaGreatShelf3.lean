/-
  DERIVED: THE SHELF's CONTRACTS AT THIS DUMP, IN PLAIN WORDS (tools/lay-plain.mjs out of 'YtgkeolddpielpaaGreatShelf3W.lean', which tools/lay-shelf.mjs wrote): THE SAME DECLARATIONS UNDER THE SAME NAMES: 'import', 'namespace', 'open', 'def', 'theorem' AND NOTHING ELSE: no command of the shelf's: FOR A HAND-IN. Each laying: the table of numbers ('.._ren') and one theorem, a field a fact of the dump's own or the kernel's comparison; each contract: ONE APPLICATION.
-/
import Derived.Ground.SlsoProg
import Derived.Shelf.SlSorted.Search
import Derived.Test.YtgkeolddpielpaaGreatProg
namespace Go.Proofs
open Go.Shelf
def Tryz.seekL_ren : Go.Shelf.Ren := ⟨fun | 16 => 55 | n => n, fun | 3 => 3 | 35 => 108 | 4 => 4 | 38 => 158 | n => n, fun | n => n⟩
theorem Tryz.seekL : Go.Proofs.SlLaysO.n16 Tryz.prog Tryz.seekL_ren := {
  mixed := by kernel_rfl
  f16 := Tryz.func55.trans (congrArg some (by kernel_rfl))
  t3 := Tryz.underlying3
  a3 := Tryz.isAgg3
  z3 := Tryz.sizeOf3
  v3 := Tryz.zeroValue3
  t4 := Tryz.underlying4
  a4 := Tryz.isAgg4
  z4 := Tryz.sizeOf4
  v4 := Tryz.zeroValue4
  t35 := Tryz.underlying108
  a35 := Tryz.isAgg108
  z35 := Tryz.sizeOf108
  v35 := Tryz.zeroValue108
  t38 := Tryz.underlying158
  a38 := Tryz.isAgg158
  z38 := Tryz.sizeOf158
  v38 := Tryz.zeroValue158 }
end Go.Proofs
