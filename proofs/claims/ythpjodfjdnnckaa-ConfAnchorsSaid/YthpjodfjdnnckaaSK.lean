/-
  The library's SortFunc, with a seat's numbers (printed by a program of the author's own).
-/
import Derived.Test.YthpjodfjdnnckaaSF
set_option linter.unusedVariables false
namespace Go.Proofs.Ythpjodfjdnnckaa
open Go.RowKit Go.Proofs
def laySortF_ren : Go.Shelf.Ren := ⟨fun | 6 => 33 | 15 => 68 | 14 => 67 | 28 => 90 | 29 => 91 | 20 => 82 | 21 => 83 | 22 => 84 | 23 => 85 | 24 => 86 | 25 => 87 | 26 => 88 | 27 => 89 | 46 => 95 | 47 => 96 | 48 => 97 | 49 => 98 | 50 => 99 | 57 => 101 | n => n, fun | 22 => 26 | 24 => 43 | 25 => 68 | 3 => 3 | 39 => 90 | 0 => 0 | 53 => 118 | 55 => 104 | 4 => 4 | 46 => 112 | 45 => 111 | 50 => 59 | 5 => 5 | 9 => 9 | 66 => 125 | 70 => 122 | 76 => 131 | 77 => 132 | n => n, fun | n => n⟩
theorem laySortF : Go.Proofs.SlLaysF0.n6 Try.prog laySortF_ren where
  mixed := by kernel_rfl
  f6 := ⟨"slices.SortFunc[[]fingerpost/api.Anchor,fingerpost/api.Anchor]", by decide, Try.func33.trans (congrArg some (by kernel_rfl))⟩
  f14 := ⟨"slices.pdqsortCmpFunc[fingerpost/api.Anchor]", by decide, Try.func67.trans (congrArg some (by kernel_rfl))⟩
  f15 := Try.func68.trans (congrArg some (by kernel_rfl))
  f20 := ⟨"slices.insertionSortCmpFunc[fingerpost/api.Anchor]", by decide, Try.func82.trans (congrArg some (by kernel_rfl))⟩
  f21 := ⟨"slices.heapSortCmpFunc[fingerpost/api.Anchor]", by decide, Try.func83.trans (congrArg some (by kernel_rfl))⟩
  f22 := ⟨"slices.breakPatternsCmpFunc[fingerpost/api.Anchor]", by decide, Try.func84.trans (congrArg some (by kernel_rfl))⟩
  f23 := ⟨"slices.choosePivotCmpFunc[fingerpost/api.Anchor]", by decide, Try.func85.trans (congrArg some (by kernel_rfl))⟩
  f24 := ⟨"slices.reverseRangeCmpFunc[fingerpost/api.Anchor]", by decide, Try.func86.trans (congrArg some (by kernel_rfl))⟩
  f25 := ⟨"slices.partialInsertionSortCmpFunc[fingerpost/api.Anchor]", by decide, Try.func87.trans (congrArg some (by kernel_rfl))⟩
  f26 := ⟨"slices.partitionEqualCmpFunc[fingerpost/api.Anchor]", by decide, Try.func88.trans (congrArg some (by kernel_rfl))⟩
  f27 := ⟨"slices.partitionCmpFunc[fingerpost/api.Anchor]", by decide, Try.func89.trans (congrArg some (by kernel_rfl))⟩
  f28 := Try.func90.trans (congrArg some (by kernel_rfl))
  f29 := Try.func91.trans (congrArg some (by kernel_rfl))
  f46 := ⟨"slices.siftDownCmpFunc[fingerpost/api.Anchor]", by decide, Try.func95.trans (congrArg some (by kernel_rfl))⟩
  f47 := Try.func96.trans (congrArg some (by kernel_rfl))
  f48 := Try.func97.trans (congrArg some (by kernel_rfl))
  f49 := ⟨"slices.medianAdjacentCmpFunc[fingerpost/api.Anchor]", by decide, Try.func98.trans (congrArg some (by kernel_rfl))⟩
  f50 := ⟨"slices.medianCmpFunc[fingerpost/api.Anchor]", by decide, Try.func99.trans (congrArg some (by kernel_rfl))⟩
  f57 := ⟨"slices.order2CmpFunc[fingerpost/api.Anchor]", by decide, Try.func101.trans (congrArg some (by kernel_rfl))⟩
  t0 := Try.underlying0
  a0 := Try.isAgg0
  z0 := Try.sizeOf0
  v0 := Try.zeroValue0
  t3 := Try.underlying3
  a3 := Try.isAgg3
  z3 := Try.sizeOf3
  v3 := Try.zeroValue3
  t4 := Try.underlying4
  a4 := Try.isAgg4
  z4 := Try.sizeOf4
  v4 := Try.zeroValue4
  t5 := Try.underlying5
  a5 := Try.isAgg5
  z5 := Try.sizeOf5
  v5 := Try.zeroValue5
  t9 := Try.underlying9
  a9 := Try.isAgg9
  z9 := Try.sizeOf9
  v9 := Try.zeroValue9
  t22 := Try.underlying26
  a22 := Try.isAgg26
  z22 := Try.sizeOf26
  v22 := Try.zeroValue26
  t25 := Try.underlying68
  a25 := Try.isAgg68
  z25 := Try.sizeOf68
  v25 := Try.zeroValue68
  t39 := Try.underlying90
  a39 := Try.isAgg90
  z39 := Try.sizeOf90
  v39 := Try.zeroValue90
  t45 := Try.underlying111
  a45 := Try.isAgg111
  z45 := Try.sizeOf111
  v45 := Try.zeroValue111
  t46 := Try.underlying112
  a46 := Try.isAgg112
  z46 := Try.sizeOf112
  v46 := Try.zeroValue112
  t50 := Try.underlying59
  a50 := Try.isAgg59
  z50 := Try.sizeOf59
  v50 := Try.zeroValue59
  t53 := Try.underlying118
  a53 := Try.isAgg118
  z53 := Try.sizeOf118
  v53 := Try.zeroValue118
  t55 := Try.underlying104
  a55 := Try.isAgg104
  z55 := Try.sizeOf104
  v55 := Try.zeroValue104
  t66 := Try.underlying125
  a66 := Try.isAgg125
  z66 := Try.sizeOf125
  v66 := Try.zeroValue125
  t70 := Try.underlying122
  a70 := Try.isAgg122
  z70 := Try.sizeOf122
  v70 := Try.zeroValue122
  t76 := Try.underlying131
  a76 := Try.isAgg131
  z76 := Try.sizeOf131
  v76 := Try.zeroValue131
  t77 := Try.underlying132
  a77 := Try.isAgg132
  z77 := Try.sizeOf132
  v77 := Try.zeroValue132
end Go.Proofs.Ythpjodfjdnnckaa
