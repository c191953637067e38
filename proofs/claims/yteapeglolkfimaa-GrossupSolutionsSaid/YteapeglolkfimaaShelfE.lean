/-
  DERIVED: THE SHELF's CONTRACTS AT THIS DUMP, IN PLAIN WORDS (tools/lay-plain.mjs out of 'YteapeglolkfimaaShelfE.lean', which tools/lay-shelf.mjs wrote): THE SAME DECLARATIONS UNDER THE SAME NAMES: 'import', 'namespace', 'open', 'def', 'theorem' AND NOTHING ELSE: no command of the shelf's: FOR A HAND-IN. Each laying: the table of numbers ('.._ren') and one theorem, a field a fact of the dump's own or the kernel's comparison; each contract: ONE APPLICATION.
-/
import Derived.Shelf.SlSortCmp.NoneTotal
import Derived.Shelf.SlSortCmp.WholeK
import Derived.Shelf.SlicesG.Cmp
import Derived.Test.YteapeglolkfimaaProg
namespace Go.Proofs
open Go.Shelf
def Try.sortE_ren : Go.Shelf.Ren := ⟨fun | 6 => 80 | 15 => 84 | 14 => 83 | 28 => 94 | 29 => 95 | 20 => 86 | 21 => 87 | 22 => 88 | 23 => 89 | 24 => 90 | 25 => 91 | 26 => 92 | 27 => 93 | 46 => 96 | 47 => 97 | 48 => 98 | 49 => 99 | 50 => 100 | 57 => 101 | n => n, fun | 22 => 85 | 24 => 87 | 25 => 93 | 3 => 3 | 39 => 90 | 0 => 0 | 53 => 105 | 55 => 107 | 4 => 4 | 46 => 98 | 45 => 97 | 50 => 102 | 5 => 5 | 9 => 9 | 66 => 108 | 70 => 112 | 76 => 114 | 77 => 54 | n => n, fun | n => n⟩
theorem Try.sortE : Go.Proofs.SlLaysF0.n6 Try.prog Try.sortE_ren := {
  mixed := by kernel_rfl
  f6 := ⟨Try.f80.name, by decide, Try.func80.trans (congrArg some (by kernel_rfl))⟩
  f14 := ⟨Try.f83.name, by decide, Try.func83.trans (congrArg some (by kernel_rfl))⟩
  f15 := Try.func84.trans (congrArg some (by kernel_rfl))
  f20 := ⟨Try.f86.name, by decide, Try.func86.trans (congrArg some (by kernel_rfl))⟩
  f21 := ⟨Try.f87.name, by decide, Try.func87.trans (congrArg some (by kernel_rfl))⟩
  f22 := ⟨Try.f88.name, by decide, Try.func88.trans (congrArg some (by kernel_rfl))⟩
  f23 := ⟨Try.f89.name, by decide, Try.func89.trans (congrArg some (by kernel_rfl))⟩
  f24 := ⟨Try.f90.name, by decide, Try.func90.trans (congrArg some (by kernel_rfl))⟩
  f25 := ⟨Try.f91.name, by decide, Try.func91.trans (congrArg some (by kernel_rfl))⟩
  f26 := ⟨Try.f92.name, by decide, Try.func92.trans (congrArg some (by kernel_rfl))⟩
  f27 := ⟨Try.f93.name, by decide, Try.func93.trans (congrArg some (by kernel_rfl))⟩
  f28 := Try.func94.trans (congrArg some (by kernel_rfl))
  f29 := Try.func95.trans (congrArg some (by kernel_rfl))
  f46 := ⟨Try.f96.name, by decide, Try.func96.trans (congrArg some (by kernel_rfl))⟩
  f47 := Try.func97.trans (congrArg some (by kernel_rfl))
  f48 := Try.func98.trans (congrArg some (by kernel_rfl))
  f49 := ⟨Try.f99.name, by decide, Try.func99.trans (congrArg some (by kernel_rfl))⟩
  f50 := ⟨Try.f100.name, by decide, Try.func100.trans (congrArg some (by kernel_rfl))⟩
  f57 := ⟨Try.f101.name, by decide, Try.func101.trans (congrArg some (by kernel_rfl))⟩
  t0 := Try.underlying0
  a0 := Try.isAgg0
  z0 := Try.sizeOf0
  v0 := Try.zeroValue0
  t3 := Try.underlying3
  a3 := Try.isAgg3
  z3 := Try.sizeOf3
  v3 := Try.zeroValue3
  t4 := Try.underlying4
  a4 := Try.isAgg4
  z4 := Try.sizeOf4
  v4 := Try.zeroValue4
  t5 := Try.underlying5
  a5 := Try.isAgg5
  z5 := Try.sizeOf5
  v5 := Try.zeroValue5
  t9 := Try.underlying9
  a9 := Try.isAgg9
  z9 := Try.sizeOf9
  v9 := Try.zeroValue9
  t22 := Try.underlying85
  a22 := Try.isAgg85
  z22 := Try.sizeOf85
  v22 := Try.zeroValue85
  t25 := Try.underlying93
  a25 := Try.isAgg93
  z25 := Try.sizeOf93
  v25 := Try.zeroValue93
  t39 := Try.underlying90
  a39 := Try.isAgg90
  z39 := Try.sizeOf90
  v39 := Try.zeroValue90
  t45 := Try.underlying97
  a45 := Try.isAgg97
  z45 := Try.sizeOf97
  v45 := Try.zeroValue97
  t46 := Try.underlying98
  a46 := Try.isAgg98
  z46 := Try.sizeOf98
  v46 := Try.zeroValue98
  t50 := Try.underlying102
  a50 := Try.isAgg102
  z50 := Try.sizeOf102
  v50 := Try.zeroValue102
  t53 := Try.underlying105
  a53 := Try.isAgg105
  z53 := Try.sizeOf105
  v53 := Try.zeroValue105
  t55 := Try.underlying107
  a55 := Try.isAgg107
  z55 := Try.sizeOf107
  v55 := Try.zeroValue107
  t66 := Try.underlying108
  a66 := Try.isAgg108
  z66 := Try.sizeOf108
  v66 := Try.zeroValue108
  t70 := Try.underlying112
  a70 := Try.isAgg112
  z70 := Try.sizeOf112
  v70 := Try.zeroValue112
  t76 := Try.underlying114
  a76 := Try.isAgg114
  z76 := Try.sizeOf114
  v76 := Try.zeroValue114
  t77 := Try.underlying54
  a77 := Try.isAgg54
  z77 := Try.sizeOf54
  v77 := Try.zeroValue54 }
def Try.cmpI_ren : Go.Shelf.Ren := ⟨fun | 5 => 82 | 7 => 85 | n => n, fun | 22 => 3 | 3 => 3 | 4 => 4 | n => n, fun | n => n⟩
theorem Try.cmpI : Go.Proofs.SlLaysC2.n5 Try.prog Try.cmpI_ren := {
  mixed := by kernel_rfl
  f5 := ⟨Try.f82.name, by decide, Try.func82.trans (congrArg some (by kernel_rfl))⟩
  f7 := ⟨Try.f85.name, by decide, Try.func85.trans (congrArg some (by kernel_rfl))⟩
  t3 := Try.underlying3
  a3 := Try.isAgg3
  z3 := Try.sizeOf3
  v3 := Try.zeroValue3
  t4 := Try.underlying4
  a4 := Try.isAgg4
  z4 := Try.sizeOf4
  v4 := Try.zeroValue4
  t22 := Try.underlying3
  a22 := Try.isAgg3
  z22 := Try.sizeOf3
  v22 := Try.zeroValue3 }
end Go.Proofs
