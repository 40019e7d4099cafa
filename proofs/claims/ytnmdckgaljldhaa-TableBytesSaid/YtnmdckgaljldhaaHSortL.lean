/-
  DERIVED: THE SHELF's CONTRACTS AT THIS DUMP, IN PLAIN WORDS (tools/lay-plain.mjs out of 'YtnmdckgaljldhaaShelfSort.lean', which tools/lay-shelf.mjs wrote): THE SAME DECLARATIONS UNDER THE SAME NAMES: 'import', 'namespace', 'open', 'def', 'theorem' AND NOTHING ELSE: no command of the shelf's: FOR A HAND-IN. Each laying: the table of numbers ('.._ren') and one theorem, a field a fact of the dump's own or the kernel's comparison; each contract: ONE APPLICATION.
-/
import Derived.Shelf.SlSortCmp.WholeK
import Derived.Test.YtnmdckgaljldhaaProg
namespace Go.Proofs
open Go.Shelf
def Try.sortL_ren : Go.Shelf.Ren := ⟨fun | 6 => 86 | 15 => 119 | 14 => 118 | 28 => 137 | 29 => 138 | 20 => 129 | 21 => 130 | 22 => 131 | 23 => 132 | 24 => 133 | 25 => 134 | 26 => 135 | 27 => 136 | 46 => 144 | 47 => 145 | 48 => 146 | 49 => 147 | 50 => 148 | 57 => 150 | n => n, fun | 22 => 77 | 24 => 81 | 25 => 82 | 3 => 3 | 39 => 154 | 0 => 0 | 53 => 47 | 55 => 39 | 4 => 4 | 46 => 165 | 45 => 164 | 50 => 169 | 5 => 5 | 9 => 9 | 66 => 177 | 70 => 180 | 76 => 182 | 77 => 93 | n => n, fun | n => n⟩
theorem Try.sortL : Go.Proofs.SlLaysF0.n6 Try.prog Try.sortL_ren := {
  mixed := by kernel_rfl
  f6 := ⟨Try.f86.name, by decide, Try.func86.trans (congrArg some (by kernel_rfl))⟩
  f14 := ⟨Try.f118.name, by decide, Try.func118.trans (congrArg some (by kernel_rfl))⟩
  f15 := Try.func119.trans (congrArg some (by kernel_rfl))
  f20 := ⟨Try.f129.name, by decide, Try.func129.trans (congrArg some (by kernel_rfl))⟩
  f21 := ⟨Try.f130.name, by decide, Try.func130.trans (congrArg some (by kernel_rfl))⟩
  f22 := ⟨Try.f131.name, by decide, Try.func131.trans (congrArg some (by kernel_rfl))⟩
  f23 := ⟨Try.f132.name, by decide, Try.func132.trans (congrArg some (by kernel_rfl))⟩
  f24 := ⟨Try.f133.name, by decide, Try.func133.trans (congrArg some (by kernel_rfl))⟩
  f25 := ⟨Try.f134.name, by decide, Try.func134.trans (congrArg some (by kernel_rfl))⟩
  f26 := ⟨Try.f135.name, by decide, Try.func135.trans (congrArg some (by kernel_rfl))⟩
  f27 := ⟨Try.f136.name, by decide, Try.func136.trans (congrArg some (by kernel_rfl))⟩
  f28 := Try.func137.trans (congrArg some (by kernel_rfl))
  f29 := Try.func138.trans (congrArg some (by kernel_rfl))
  f46 := ⟨Try.f144.name, by decide, Try.func144.trans (congrArg some (by kernel_rfl))⟩
  f47 := Try.func145.trans (congrArg some (by kernel_rfl))
  f48 := Try.func146.trans (congrArg some (by kernel_rfl))
  f49 := ⟨Try.f147.name, by decide, Try.func147.trans (congrArg some (by kernel_rfl))⟩
  f50 := ⟨Try.f148.name, by decide, Try.func148.trans (congrArg some (by kernel_rfl))⟩
  f57 := ⟨Try.f150.name, by decide, Try.func150.trans (congrArg some (by kernel_rfl))⟩
  t0 := Try.underlying0
  a0 := Try.isAgg0
  z0 := Try.sizeOf0
  v0 := Try.zeroValue0
  t3 := Try.underlying3
  a3 := Try.isAgg3
  z3 := Try.sizeOf3
  v3 := Try.zeroValue3
  t4 := Try.underlying4
  a4 := Try.isAgg4
  z4 := Try.sizeOf4
  v4 := Try.zeroValue4
  t5 := Try.underlying5
  a5 := Try.isAgg5
  z5 := Try.sizeOf5
  v5 := Try.zeroValue5
  t9 := Try.underlying9
  a9 := Try.isAgg9
  z9 := Try.sizeOf9
  v9 := Try.zeroValue9
  t22 := Try.underlying77
  a22 := Try.isAgg77
  z22 := Try.sizeOf77
  v22 := Try.zeroValue77
  t25 := Try.underlying82
  a25 := Try.isAgg82
  z25 := Try.sizeOf82
  v25 := Try.zeroValue82
  t39 := Try.underlying154
  a39 := Try.isAgg154
  z39 := Try.sizeOf154
  v39 := Try.zeroValue154
  t45 := Try.underlying164
  a45 := Try.isAgg164
  z45 := Try.sizeOf164
  v45 := Try.zeroValue164
  t46 := Try.underlying165
  a46 := Try.isAgg165
  z46 := Try.sizeOf165
  v46 := Try.zeroValue165
  t50 := Try.underlying169
  a50 := Try.isAgg169
  z50 := Try.sizeOf169
  v50 := Try.zeroValue169
  t53 := Try.underlying47
  a53 := Try.isAgg47
  z53 := Try.sizeOf47
  v53 := Try.zeroValue47
  t55 := Try.underlying39
  a55 := Try.isAgg39
  z55 := Try.sizeOf39
  v55 := Try.zeroValue39
  t66 := Try.underlying177
  a66 := Try.isAgg177
  z66 := Try.sizeOf177
  v66 := Try.zeroValue177
  t70 := Try.underlying180
  a70 := Try.isAgg180
  z70 := Try.sizeOf180
  v70 := Try.zeroValue180
  t76 := Try.underlying182
  a76 := Try.isAgg182
  z76 := Try.sizeOf182
  v76 := Try.zeroValue182
  t77 := Try.underlying93
  a77 := Try.isAgg93
  z77 := Try.sizeOf93
  v77 := Try.zeroValue93 }
end Go.Proofs
