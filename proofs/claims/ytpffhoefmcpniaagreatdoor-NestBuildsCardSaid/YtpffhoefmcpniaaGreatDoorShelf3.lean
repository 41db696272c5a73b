/-
  DERIVED: THE SHELF's CONTRACTS AT THIS DUMP, IN PLAIN WORDS (tools/lay-plain.mjs out of 'YtpffhoefmcpniaaGreatDoorShelf3W.lean', which tools/lay-shelf.mjs wrote): THE SAME DECLARATIONS UNDER THE SAME NAMES: 'import', 'namespace', 'open', 'def', 'theorem' AND NOTHING ELSE: no command of the shelf's: FOR A HAND-IN. Each laying: the table of numbers ('.._ren') and one theorem, a field a fact of the dump's own or the kernel's comparison; each contract: ONE APPLICATION.
-/
import Derived.Ground.SlsfProg
import Derived.Shelf.SlSortCmp.NoneTotal
import Derived.Test.YtpffhoefmcpniaaGreatDoorProg
namespace Go.Proofs
open Go.Shelf
def Tryz.sortPl_ren : Go.Shelf.Ren := ⟨fun | 6 => 116 | 15 => 128 | 14 => 127 | 28 => 141 | 29 => 142 | 20 => 133 | 21 => 134 | 22 => 135 | 23 => 136 | 24 => 137 | 25 => 138 | 26 => 139 | 27 => 140 | 46 => 144 | 47 => 145 | 48 => 146 | 49 => 147 | 50 => 148 | 57 => 149 | n => n, fun | 22 => 27 | 24 => 3 | 25 => 213 | 3 => 3 | 39 => 226 | 0 => 0 | 53 => 240 | 55 => 242 | 4 => 4 | 46 => 234 | 45 => 233 | 50 => 222 | 5 => 5 | 9 => 9 | 66 => 245 | 70 => 249 | 76 => 251 | 77 => 252 | n => n, fun | n => n⟩
theorem Tryz.sortPl : Go.Proofs.SlLaysF.n6 Tryz.prog Tryz.sortPl_ren := {
  mixed := by kernel_rfl
  f6 := ⟨Tryz.f116.name, by decide, Tryz.func116.trans (congrArg some (by kernel_rfl))⟩
  f14 := ⟨Tryz.f127.name, by decide, Tryz.func127.trans (congrArg some (by kernel_rfl))⟩
  f15 := Tryz.func128.trans (congrArg some (by kernel_rfl))
  f20 := ⟨Tryz.f133.name, by decide, Tryz.func133.trans (congrArg some (by kernel_rfl))⟩
  f21 := ⟨Tryz.f134.name, by decide, Tryz.func134.trans (congrArg some (by kernel_rfl))⟩
  f22 := ⟨Tryz.f135.name, by decide, Tryz.func135.trans (congrArg some (by kernel_rfl))⟩
  f23 := ⟨Tryz.f136.name, by decide, Tryz.func136.trans (congrArg some (by kernel_rfl))⟩
  f24 := ⟨Tryz.f137.name, by decide, Tryz.func137.trans (congrArg some (by kernel_rfl))⟩
  f25 := ⟨Tryz.f138.name, by decide, Tryz.func138.trans (congrArg some (by kernel_rfl))⟩
  f26 := ⟨Tryz.f139.name, by decide, Tryz.func139.trans (congrArg some (by kernel_rfl))⟩
  f27 := ⟨Tryz.f140.name, by decide, Tryz.func140.trans (congrArg some (by kernel_rfl))⟩
  f28 := Tryz.func141.trans (congrArg some (by kernel_rfl))
  f29 := Tryz.func142.trans (congrArg some (by kernel_rfl))
  f46 := ⟨Tryz.f144.name, by decide, Tryz.func144.trans (congrArg some (by kernel_rfl))⟩
  f47 := Tryz.func145.trans (congrArg some (by kernel_rfl))
  f48 := Tryz.func146.trans (congrArg some (by kernel_rfl))
  f49 := ⟨Tryz.f147.name, by decide, Tryz.func147.trans (congrArg some (by kernel_rfl))⟩
  f50 := ⟨Tryz.f148.name, by decide, Tryz.func148.trans (congrArg some (by kernel_rfl))⟩
  f57 := ⟨Tryz.f149.name, by decide, Tryz.func149.trans (congrArg some (by kernel_rfl))⟩
  t0 := Tryz.underlying0
  a0 := Tryz.isAgg0
  z0 := Tryz.sizeOf0
  v0 := Tryz.zeroValue0
  t3 := Tryz.underlying3
  a3 := Tryz.isAgg3
  z3 := Tryz.sizeOf3
  v3 := Tryz.zeroValue3
  t4 := Tryz.underlying4
  a4 := Tryz.isAgg4
  z4 := Tryz.sizeOf4
  v4 := Tryz.zeroValue4
  t5 := Tryz.underlying5
  a5 := Tryz.isAgg5
  z5 := Tryz.sizeOf5
  v5 := Tryz.zeroValue5
  t9 := Tryz.underlying9
  a9 := Tryz.isAgg9
  z9 := Tryz.sizeOf9
  v9 := Tryz.zeroValue9
  t22 := Tryz.underlying27
  a22 := Tryz.isAgg27
  z22 := Tryz.sizeOf27
  v22 := Tryz.zeroValue27
  a24 := Tryz.isAgg3
  z24 := Tryz.sizeOf3
  t25 := Tryz.underlying213
  a25 := Tryz.isAgg213
  z25 := Tryz.sizeOf213
  v25 := Tryz.zeroValue213
  t39 := Tryz.underlying226
  a39 := Tryz.isAgg226
  z39 := Tryz.sizeOf226
  v39 := Tryz.zeroValue226
  t45 := Tryz.underlying233
  a45 := Tryz.isAgg233
  z45 := Tryz.sizeOf233
  v45 := Tryz.zeroValue233
  t46 := Tryz.underlying234
  a46 := Tryz.isAgg234
  z46 := Tryz.sizeOf234
  v46 := Tryz.zeroValue234
  t50 := Tryz.underlying222
  a50 := Tryz.isAgg222
  z50 := Tryz.sizeOf222
  v50 := Tryz.zeroValue222
  t53 := Tryz.underlying240
  a53 := Tryz.isAgg240
  z53 := Tryz.sizeOf240
  v53 := Tryz.zeroValue240
  t55 := Tryz.underlying242
  a55 := Tryz.isAgg242
  z55 := Tryz.sizeOf242
  v55 := Tryz.zeroValue242
  t66 := Tryz.underlying245
  a66 := Tryz.isAgg245
  z66 := Tryz.sizeOf245
  v66 := Tryz.zeroValue245
  t70 := Tryz.underlying249
  a70 := Tryz.isAgg249
  z70 := Tryz.sizeOf249
  v70 := Tryz.zeroValue249
  t76 := Tryz.underlying251
  a76 := Tryz.isAgg251
  z76 := Tryz.sizeOf251
  v76 := Tryz.zeroValue251
  t77 := Tryz.underlying252
  a77 := Tryz.isAgg252
  z77 := Tryz.sizeOf252
  v77 := Tryz.zeroValue252 }
end Go.Proofs
