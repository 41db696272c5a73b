/-
  DERIVED: THE SHELF's CONTRACTS AT THIS DUMP, IN PLAIN WORDS (tools/lay-plain.mjs out of 'YtjphjbchhhembaaDoorShelf3W.lean', which tools/lay-shelf.mjs wrote): THE SAME DECLARATIONS UNDER THE SAME NAMES: 'import', 'namespace', 'open', 'def', 'theorem' AND NOTHING ELSE: no command of the shelf's: FOR A HAND-IN. Each laying: the table of numbers ('.._ren') and one theorem, a field a fact of the dump's own or the kernel's comparison; each contract: ONE APPLICATION.
-/
import Derived.Ground.SlsfProg
import Derived.Shelf.SlSortCmp.NoneTotal
import Derived.Test.YtjphjbchhhembaaDoorProg
namespace Go.Proofs
open Go.Shelf
def Tryd.sortPl_ren : Go.Shelf.Ren := ⟨fun | 6 => 97 | 15 => 67 | 14 => 119 | 28 => 94 | 29 => 95 | 20 => 128 | 21 => 129 | 22 => 130 | 23 => 131 | 24 => 132 | 25 => 133 | 26 => 134 | 27 => 135 | 46 => 138 | 47 => 115 | 48 => 116 | 49 => 139 | 50 => 140 | 57 => 141 | n => n, fun | 22 => 41 | 24 => 3 | 25 => 87 | 3 => 3 | 39 => 120 | 0 => 0 | 53 => 156 | 55 => 158 | 4 => 4 | 46 => 149 | 45 => 148 | 50 => 153 | 5 => 5 | 9 => 9 | 66 => 190 | 70 => 194 | 76 => 203 | 77 => 204 | n => n, fun | n => n⟩
theorem Tryd.sortPl : Go.Proofs.SlLaysF.n6 Tryd.prog Tryd.sortPl_ren := {
  mixed := by kernel_rfl
  f6 := ⟨Tryd.f97.name, by decide, Tryd.func97.trans (congrArg some (by kernel_rfl))⟩
  f14 := ⟨Tryd.f119.name, by decide, Tryd.func119.trans (congrArg some (by kernel_rfl))⟩
  f15 := Tryd.func67.trans (congrArg some (by kernel_rfl))
  f20 := ⟨Tryd.f128.name, by decide, Tryd.func128.trans (congrArg some (by kernel_rfl))⟩
  f21 := ⟨Tryd.f129.name, by decide, Tryd.func129.trans (congrArg some (by kernel_rfl))⟩
  f22 := ⟨Tryd.f130.name, by decide, Tryd.func130.trans (congrArg some (by kernel_rfl))⟩
  f23 := ⟨Tryd.f131.name, by decide, Tryd.func131.trans (congrArg some (by kernel_rfl))⟩
  f24 := ⟨Tryd.f132.name, by decide, Tryd.func132.trans (congrArg some (by kernel_rfl))⟩
  f25 := ⟨Tryd.f133.name, by decide, Tryd.func133.trans (congrArg some (by kernel_rfl))⟩
  f26 := ⟨Tryd.f134.name, by decide, Tryd.func134.trans (congrArg some (by kernel_rfl))⟩
  f27 := ⟨Tryd.f135.name, by decide, Tryd.func135.trans (congrArg some (by kernel_rfl))⟩
  f28 := Tryd.func94.trans (congrArg some (by kernel_rfl))
  f29 := Tryd.func95.trans (congrArg some (by kernel_rfl))
  f46 := ⟨Tryd.f138.name, by decide, Tryd.func138.trans (congrArg some (by kernel_rfl))⟩
  f47 := Tryd.func115.trans (congrArg some (by kernel_rfl))
  f48 := Tryd.func116.trans (congrArg some (by kernel_rfl))
  f49 := ⟨Tryd.f139.name, by decide, Tryd.func139.trans (congrArg some (by kernel_rfl))⟩
  f50 := ⟨Tryd.f140.name, by decide, Tryd.func140.trans (congrArg some (by kernel_rfl))⟩
  f57 := ⟨Tryd.f141.name, by decide, Tryd.func141.trans (congrArg some (by kernel_rfl))⟩
  t0 := Tryd.underlying0
  a0 := Tryd.isAgg0
  z0 := Tryd.sizeOf0
  v0 := Tryd.zeroValue0
  t3 := Tryd.underlying3
  a3 := Tryd.isAgg3
  z3 := Tryd.sizeOf3
  v3 := Tryd.zeroValue3
  t4 := Tryd.underlying4
  a4 := Tryd.isAgg4
  z4 := Tryd.sizeOf4
  v4 := Tryd.zeroValue4
  t5 := Tryd.underlying5
  a5 := Tryd.isAgg5
  z5 := Tryd.sizeOf5
  v5 := Tryd.zeroValue5
  t9 := Tryd.underlying9
  a9 := Tryd.isAgg9
  z9 := Tryd.sizeOf9
  v9 := Tryd.zeroValue9
  t22 := Tryd.underlying41
  a22 := Tryd.isAgg41
  z22 := Tryd.sizeOf41
  v22 := Tryd.zeroValue41
  a24 := Tryd.isAgg3
  z24 := Tryd.sizeOf3
  t25 := Tryd.underlying87
  a25 := Tryd.isAgg87
  z25 := Tryd.sizeOf87
  v25 := Tryd.zeroValue87
  t39 := Tryd.underlying120
  a39 := Tryd.isAgg120
  z39 := Tryd.sizeOf120
  v39 := Tryd.zeroValue120
  t45 := Tryd.underlying148
  a45 := Tryd.isAgg148
  z45 := Tryd.sizeOf148
  v45 := Tryd.zeroValue148
  t46 := Tryd.underlying149
  a46 := Tryd.isAgg149
  z46 := Tryd.sizeOf149
  v46 := Tryd.zeroValue149
  t50 := Tryd.underlying153
  a50 := Tryd.isAgg153
  z50 := Tryd.sizeOf153
  v50 := Tryd.zeroValue153
  t53 := Tryd.underlying156
  a53 := Tryd.isAgg156
  z53 := Tryd.sizeOf156
  v53 := Tryd.zeroValue156
  t55 := Tryd.underlying158
  a55 := Tryd.isAgg158
  z55 := Tryd.sizeOf158
  v55 := Tryd.zeroValue158
  t66 := Tryd.underlying190
  a66 := Tryd.isAgg190
  z66 := Tryd.sizeOf190
  v66 := Tryd.zeroValue190
  t70 := Tryd.underlying194
  a70 := Tryd.isAgg194
  z70 := Tryd.sizeOf194
  v70 := Tryd.zeroValue194
  t76 := Tryd.underlying203
  a76 := Tryd.isAgg203
  z76 := Tryd.sizeOf203
  v76 := Tryd.zeroValue203
  t77 := Tryd.underlying204
  a77 := Tryd.isAgg204
  z77 := Tryd.sizeOf204
  v77 := Tryd.zeroValue204 }
end Go.Proofs
