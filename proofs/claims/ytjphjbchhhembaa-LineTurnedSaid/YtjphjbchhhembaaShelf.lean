/-
  DERIVED: THE SHELF's CONTRACTS AT THIS DUMP, IN PLAIN WORDS (tools/lay-plain.mjs out of 'YtjphjbchhhembaaShelfW.lean', which tools/lay-shelf.mjs wrote): THE SAME DECLARATIONS UNDER THE SAME NAMES: 'import', 'namespace', 'open', 'def', 'theorem' AND NOTHING ELSE: no command of the shelf's: FOR A HAND-IN. Each laying: the table of numbers ('.._ren') and one theorem, a field a fact of the dump's own or the kernel's comparison; each contract: ONE APPLICATION.
-/
import Derived.Ground.SlsfProg
import Derived.Shelf.SlSortCmp.NoneTotal
import Derived.Test.YtjphjbchhhembaaProg
namespace Go.Proofs
open Go.Shelf
def Try.sortInt_ren : Go.Shelf.Ren := ⟨fun | 6 => 17 | 15 => 23 | 14 => 22 | 28 => 33 | 29 => 34 | 20 => 25 | 21 => 26 | 22 => 27 | 23 => 28 | 24 => 29 | 25 => 30 | 26 => 31 | 27 => 32 | 46 => 35 | 47 => 36 | 48 => 37 | 49 => 38 | 50 => 39 | 57 => 40 | n => n, fun | 22 => 26 | 24 => 3 | 25 => 42 | 3 => 3 | 39 => 46 | 0 => 0 | 53 => 56 | 55 => 58 | 4 => 4 | 46 => 49 | 45 => 48 | 50 => 53 | 5 => 5 | 9 => 9 | 66 => 59 | 70 => 63 | 76 => 65 | 77 => 66 | n => n, fun | n => n⟩
theorem Try.sortInt : Go.Proofs.SlLaysF.n6 Try.prog Try.sortInt_ren := {
  mixed := by kernel_rfl
  f6 := ⟨Try.f17.name, by decide, Try.func17.trans (congrArg some (by kernel_rfl))⟩
  f14 := ⟨Try.f22.name, by decide, Try.func22.trans (congrArg some (by kernel_rfl))⟩
  f15 := Try.func23.trans (congrArg some (by kernel_rfl))
  f20 := ⟨Try.f25.name, by decide, Try.func25.trans (congrArg some (by kernel_rfl))⟩
  f21 := ⟨Try.f26.name, by decide, Try.func26.trans (congrArg some (by kernel_rfl))⟩
  f22 := ⟨Try.f27.name, by decide, Try.func27.trans (congrArg some (by kernel_rfl))⟩
  f23 := ⟨Try.f28.name, by decide, Try.func28.trans (congrArg some (by kernel_rfl))⟩
  f24 := ⟨Try.f29.name, by decide, Try.func29.trans (congrArg some (by kernel_rfl))⟩
  f25 := ⟨Try.f30.name, by decide, Try.func30.trans (congrArg some (by kernel_rfl))⟩
  f26 := ⟨Try.f31.name, by decide, Try.func31.trans (congrArg some (by kernel_rfl))⟩
  f27 := ⟨Try.f32.name, by decide, Try.func32.trans (congrArg some (by kernel_rfl))⟩
  f28 := Try.func33.trans (congrArg some (by kernel_rfl))
  f29 := Try.func34.trans (congrArg some (by kernel_rfl))
  f46 := ⟨Try.f35.name, by decide, Try.func35.trans (congrArg some (by kernel_rfl))⟩
  f47 := Try.func36.trans (congrArg some (by kernel_rfl))
  f48 := Try.func37.trans (congrArg some (by kernel_rfl))
  f49 := ⟨Try.f38.name, by decide, Try.func38.trans (congrArg some (by kernel_rfl))⟩
  f50 := ⟨Try.f39.name, by decide, Try.func39.trans (congrArg some (by kernel_rfl))⟩
  f57 := ⟨Try.f40.name, by decide, Try.func40.trans (congrArg some (by kernel_rfl))⟩
  t0 := Try.underlying0
  a0 := Try.isAgg0
  z0 := Try.sizeOf0
  v0 := Try.zeroValue0
  t3 := Try.underlying3
  a3 := Try.isAgg3
  z3 := Try.sizeOf3
  v3 := Try.zeroValue3
  t4 := Try.underlying4
  a4 := Try.isAgg4
  z4 := Try.sizeOf4
  v4 := Try.zeroValue4
  t5 := Try.underlying5
  a5 := Try.isAgg5
  z5 := Try.sizeOf5
  v5 := Try.zeroValue5
  t9 := Try.underlying9
  a9 := Try.isAgg9
  z9 := Try.sizeOf9
  v9 := Try.zeroValue9
  t22 := Try.underlying26
  a22 := Try.isAgg26
  z22 := Try.sizeOf26
  v22 := Try.zeroValue26
  a24 := Try.isAgg3
  z24 := Try.sizeOf3
  t25 := Try.underlying42
  a25 := Try.isAgg42
  z25 := Try.sizeOf42
  v25 := Try.zeroValue42
  t39 := Try.underlying46
  a39 := Try.isAgg46
  z39 := Try.sizeOf46
  v39 := Try.zeroValue46
  t45 := Try.underlying48
  a45 := Try.isAgg48
  z45 := Try.sizeOf48
  v45 := Try.zeroValue48
  t46 := Try.underlying49
  a46 := Try.isAgg49
  z46 := Try.sizeOf49
  v46 := Try.zeroValue49
  t50 := Try.underlying53
  a50 := Try.isAgg53
  z50 := Try.sizeOf53
  v50 := Try.zeroValue53
  t53 := Try.underlying56
  a53 := Try.isAgg56
  z53 := Try.sizeOf56
  v53 := Try.zeroValue56
  t55 := Try.underlying58
  a55 := Try.isAgg58
  z55 := Try.sizeOf58
  v55 := Try.zeroValue58
  t66 := Try.underlying59
  a66 := Try.isAgg59
  z66 := Try.sizeOf59
  v66 := Try.zeroValue59
  t70 := Try.underlying63
  a70 := Try.isAgg63
  z70 := Try.sizeOf63
  v70 := Try.zeroValue63
  t76 := Try.underlying65
  a76 := Try.isAgg65
  z76 := Try.sizeOf65
  v76 := Try.zeroValue65
  t77 := Try.underlying66
  a77 := Try.isAgg66
  z77 := Try.sizeOf66
  v77 := Try.zeroValue66 }
end Go.Proofs
