/-
  DERIVED: THE SHELF's CONTRACTS AT THIS DUMP, IN PLAIN WORDS (tools/lay-plain.mjs out of 'YthghilclgobpbaaItemSortTry.lean', which tools/lay-shelf.mjs wrote): THE SAME DECLARATIONS UNDER THE SAME NAMES: 'import', 'namespace', 'open', 'def', 'theorem' AND NOTHING ELSE: no command of the shelf's: FOR A HAND-IN. Each laying: the table of numbers ('.._ren') and one theorem, a field a fact of the dump's own or the kernel's comparison; each contract: ONE APPLICATION.
-/
import Derived.Shelf.SlLaysF0
import Derived.Ground.SlsfProg
import Derived.Ground.NamesProg
import Derived.Test.YthghilclgobpbaaProg
namespace Go.Proofs
open Go.Shelf
def Try.itemSort_ren : Go.Shelf.Ren := ⟨fun | 6 => 31 | 15 => 54 | 14 => 53 | 28 => 81 | 29 => 82 | 20 => 73 | 21 => 74 | 22 => 75 | 23 => 76 | 24 => 77 | 25 => 78 | 26 => 79 | 27 => 80 | 46 => 99 | 47 => 100 | 48 => 101 | 49 => 102 | 50 => 103 | 57 => 121 | n => n, fun | 22 => 71 | 24 => 75 | 25 => 76 | 3 => 3 | 39 => 113 | 0 => 0 | 53 => 141 | 55 => 143 | 4 => 4 | 46 => 134 | 45 => 133 | 50 => 138 | 5 => 5 | 9 => 9 | 66 => 156 | 70 => 160 | 76 => 175 | 77 => 125 | n => n, fun | n => n⟩
theorem Try.itemSort : Go.Proofs.SlLaysF0.n6 Try.prog Try.itemSort_ren := {
  mixed := by kernel_rfl
  f6 := ⟨Try.f31.name, by decide, Try.func31.trans (congrArg some (by kernel_rfl))⟩
  f14 := ⟨Try.f53.name, by decide, Try.func53.trans (congrArg some (by kernel_rfl))⟩
  f15 := Try.func54.trans (congrArg some (by kernel_rfl))
  f20 := ⟨Try.f73.name, by decide, Try.func73.trans (congrArg some (by kernel_rfl))⟩
  f21 := ⟨Try.f74.name, by decide, Try.func74.trans (congrArg some (by kernel_rfl))⟩
  f22 := ⟨Try.f75.name, by decide, Try.func75.trans (congrArg some (by kernel_rfl))⟩
  f23 := ⟨Try.f76.name, by decide, Try.func76.trans (congrArg some (by kernel_rfl))⟩
  f24 := ⟨Try.f77.name, by decide, Try.func77.trans (congrArg some (by kernel_rfl))⟩
  f25 := ⟨Try.f78.name, by decide, Try.func78.trans (congrArg some (by kernel_rfl))⟩
  f26 := ⟨Try.f79.name, by decide, Try.func79.trans (congrArg some (by kernel_rfl))⟩
  f27 := ⟨Try.f80.name, by decide, Try.func80.trans (congrArg some (by kernel_rfl))⟩
  f28 := Try.func81.trans (congrArg some (by kernel_rfl))
  f29 := Try.func82.trans (congrArg some (by kernel_rfl))
  f46 := ⟨Try.f99.name, by decide, Try.func99.trans (congrArg some (by kernel_rfl))⟩
  f47 := Try.func100.trans (congrArg some (by kernel_rfl))
  f48 := Try.func101.trans (congrArg some (by kernel_rfl))
  f49 := ⟨Try.f102.name, by decide, Try.func102.trans (congrArg some (by kernel_rfl))⟩
  f50 := ⟨Try.f103.name, by decide, Try.func103.trans (congrArg some (by kernel_rfl))⟩
  f57 := ⟨Try.f121.name, by decide, Try.func121.trans (congrArg some (by kernel_rfl))⟩
  t0 := Try.underlying0
  a0 := Try.isAgg0
  z0 := Try.sizeOf0
  v0 := Try.zeroValue0
  t3 := Try.underlying3
  a3 := Try.isAgg3
  z3 := Try.sizeOf3
  v3 := Try.zeroValue3
  t4 := Try.underlying4
  a4 := Try.isAgg4
  z4 := Try.sizeOf4
  v4 := Try.zeroValue4
  t5 := Try.underlying5
  a5 := Try.isAgg5
  z5 := Try.sizeOf5
  v5 := Try.zeroValue5
  t9 := Try.underlying9
  a9 := Try.isAgg9
  z9 := Try.sizeOf9
  v9 := Try.zeroValue9
  t22 := Try.underlying71
  a22 := Try.isAgg71
  z22 := Try.sizeOf71
  v22 := Try.zeroValue71
  t25 := Try.underlying76
  a25 := Try.isAgg76
  z25 := Try.sizeOf76
  v25 := Try.zeroValue76
  t39 := Try.underlying113
  a39 := Try.isAgg113
  z39 := Try.sizeOf113
  v39 := Try.zeroValue113
  t45 := Try.underlying133
  a45 := Try.isAgg133
  z45 := Try.sizeOf133
  v45 := Try.zeroValue133
  t46 := Try.underlying134
  a46 := Try.isAgg134
  z46 := Try.sizeOf134
  v46 := Try.zeroValue134
  t50 := Try.underlying138
  a50 := Try.isAgg138
  z50 := Try.sizeOf138
  v50 := Try.zeroValue138
  t53 := Try.underlying141
  a53 := Try.isAgg141
  z53 := Try.sizeOf141
  v53 := Try.zeroValue141
  t55 := Try.underlying143
  a55 := Try.isAgg143
  z55 := Try.sizeOf143
  v55 := Try.zeroValue143
  t66 := Try.underlying156
  a66 := Try.isAgg156
  z66 := Try.sizeOf156
  v66 := Try.zeroValue156
  t70 := Try.underlying160
  a70 := Try.isAgg160
  z70 := Try.sizeOf160
  v70 := Try.zeroValue160
  t76 := Try.underlying175
  a76 := Try.isAgg175
  z76 := Try.sizeOf175
  v76 := Try.zeroValue175
  t77 := Try.underlying125
  a77 := Try.isAgg125
  z77 := Try.sizeOf125
  v77 := Try.zeroValue125 }
end Go.Proofs
