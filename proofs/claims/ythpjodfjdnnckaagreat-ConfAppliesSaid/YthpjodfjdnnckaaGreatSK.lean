/-
  The library's SortFunc, with a seat's numbers (printed by a program of the author's own).
-/
import Derived.Test.YthpjodfjdnnckaaGreatSF
set_option linter.unusedVariables false
namespace Go.Proofs.YthpjodfjdnnckaaGreat
open Go.RowKit Go.Proofs
def laySortF_ren : Go.Shelf.Ren := ⟨fun | 6 => 34 | 15 => 92 | 14 => 91 | 28 => 117 | 29 => 118 | 20 => 109 | 21 => 110 | 22 => 111 | 23 => 112 | 24 => 113 | 25 => 114 | 26 => 115 | 27 => 116 | 46 => 124 | 47 => 125 | 48 => 126 | 49 => 127 | 50 => 128 | 57 => 130 | n => n, fun | 22 => 27 | 24 => 55 | 25 => 66 | 3 => 3 | 39 => 108 | 0 => 0 | 53 => 123 | 55 => 124 | 4 => 4 | 46 => 133 | 45 => 132 | 50 => 57 | 5 => 5 | 9 => 9 | 66 => 147 | 70 => 144 | 76 => 153 | 77 => 154 | n => n, fun | n => n⟩
theorem laySortF : Go.Proofs.SlLaysF0.n6 Tryz.prog laySortF_ren where
  mixed := by kernel_rfl
  f6 := ⟨"slices.SortFunc[[]fingerpost/api.Anchor,fingerpost/api.Anchor]", by decide, Tryz.func34.trans (congrArg some (by kernel_rfl))⟩
  f14 := ⟨"slices.pdqsortCmpFunc[fingerpost/api.Anchor]", by decide, Tryz.func91.trans (congrArg some (by kernel_rfl))⟩
  f15 := Tryz.func92.trans (congrArg some (by kernel_rfl))
  f20 := ⟨"slices.insertionSortCmpFunc[fingerpost/api.Anchor]", by decide, Tryz.func109.trans (congrArg some (by kernel_rfl))⟩
  f21 := ⟨"slices.heapSortCmpFunc[fingerpost/api.Anchor]", by decide, Tryz.func110.trans (congrArg some (by kernel_rfl))⟩
  f22 := ⟨"slices.breakPatternsCmpFunc[fingerpost/api.Anchor]", by decide, Tryz.func111.trans (congrArg some (by kernel_rfl))⟩
  f23 := ⟨"slices.choosePivotCmpFunc[fingerpost/api.Anchor]", by decide, Tryz.func112.trans (congrArg some (by kernel_rfl))⟩
  f24 := ⟨"slices.reverseRangeCmpFunc[fingerpost/api.Anchor]", by decide, Tryz.func113.trans (congrArg some (by kernel_rfl))⟩
  f25 := ⟨"slices.partialInsertionSortCmpFunc[fingerpost/api.Anchor]", by decide, Tryz.func114.trans (congrArg some (by kernel_rfl))⟩
  f26 := ⟨"slices.partitionEqualCmpFunc[fingerpost/api.Anchor]", by decide, Tryz.func115.trans (congrArg some (by kernel_rfl))⟩
  f27 := ⟨"slices.partitionCmpFunc[fingerpost/api.Anchor]", by decide, Tryz.func116.trans (congrArg some (by kernel_rfl))⟩
  f28 := Tryz.func117.trans (congrArg some (by kernel_rfl))
  f29 := Tryz.func118.trans (congrArg some (by kernel_rfl))
  f46 := ⟨"slices.siftDownCmpFunc[fingerpost/api.Anchor]", by decide, Tryz.func124.trans (congrArg some (by kernel_rfl))⟩
  f47 := Tryz.func125.trans (congrArg some (by kernel_rfl))
  f48 := Tryz.func126.trans (congrArg some (by kernel_rfl))
  f49 := ⟨"slices.medianAdjacentCmpFunc[fingerpost/api.Anchor]", by decide, Tryz.func127.trans (congrArg some (by kernel_rfl))⟩
  f50 := ⟨"slices.medianCmpFunc[fingerpost/api.Anchor]", by decide, Tryz.func128.trans (congrArg some (by kernel_rfl))⟩
  f57 := ⟨"slices.order2CmpFunc[fingerpost/api.Anchor]", by decide, Tryz.func130.trans (congrArg some (by kernel_rfl))⟩
  t0 := Tryz.underlying0
  a0 := Tryz.isAgg0
  z0 := Tryz.sizeOf0
  v0 := Tryz.zeroValue0
  t3 := Tryz.underlying3
  a3 := Tryz.isAgg3
  z3 := Tryz.sizeOf3
  v3 := Tryz.zeroValue3
  t4 := Tryz.underlying4
  a4 := Tryz.isAgg4
  z4 := Tryz.sizeOf4
  v4 := Tryz.zeroValue4
  t5 := Tryz.underlying5
  a5 := Tryz.isAgg5
  z5 := Tryz.sizeOf5
  v5 := Tryz.zeroValue5
  t9 := Tryz.underlying9
  a9 := Tryz.isAgg9
  z9 := Tryz.sizeOf9
  v9 := Tryz.zeroValue9
  t22 := Tryz.underlying27
  a22 := Tryz.isAgg27
  z22 := Tryz.sizeOf27
  v22 := Tryz.zeroValue27
  t25 := Tryz.underlying66
  a25 := Tryz.isAgg66
  z25 := Tryz.sizeOf66
  v25 := Tryz.zeroValue66
  t39 := Tryz.underlying108
  a39 := Tryz.isAgg108
  z39 := Tryz.sizeOf108
  v39 := Tryz.zeroValue108
  t45 := Tryz.underlying132
  a45 := Tryz.isAgg132
  z45 := Tryz.sizeOf132
  v45 := Tryz.zeroValue132
  t46 := Tryz.underlying133
  a46 := Tryz.isAgg133
  z46 := Tryz.sizeOf133
  v46 := Tryz.zeroValue133
  t50 := Tryz.underlying57
  a50 := Tryz.isAgg57
  z50 := Tryz.sizeOf57
  v50 := Tryz.zeroValue57
  t53 := Tryz.underlying123
  a53 := Tryz.isAgg123
  z53 := Tryz.sizeOf123
  v53 := Tryz.zeroValue123
  t55 := Tryz.underlying124
  a55 := Tryz.isAgg124
  z55 := Tryz.sizeOf124
  v55 := Tryz.zeroValue124
  t66 := Tryz.underlying147
  a66 := Tryz.isAgg147
  z66 := Tryz.sizeOf147
  v66 := Tryz.zeroValue147
  t70 := Tryz.underlying144
  a70 := Tryz.isAgg144
  z70 := Tryz.sizeOf144
  v70 := Tryz.zeroValue144
  t76 := Tryz.underlying153
  a76 := Tryz.isAgg153
  z76 := Tryz.sizeOf153
  v76 := Tryz.zeroValue153
  t77 := Tryz.underlying154
  a77 := Tryz.isAgg154
  z77 := Tryz.sizeOf154
  v77 := Tryz.zeroValue154
end Go.Proofs.YthpjodfjdnnckaaGreat
