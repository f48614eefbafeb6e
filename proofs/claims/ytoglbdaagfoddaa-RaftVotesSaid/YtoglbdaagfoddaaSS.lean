/-
  The library's sorts and their like, with a seat's numbers (printed by a program of the author's own).
-/
import Derived.Test.YtoglbdaagfoddaaST
set_option linter.unusedVariables false
namespace Go.Proofs.Ytoglbdaagfoddaa
open Go.RowKit Go.Lib Go.Sort Go.Proofs
def laySort_ren : Go.Shelf.Ren := ⟨fun | 53 => 78 | 64 => 87 | 63 => 86 | 78 => 99 | 79 => 100 | 70 => 90 | 71 => 91 | 72 => 92 | 73 => 93 | 74 => 94 | 75 => 95 | 59 => 96 | 76 => 97 | 77 => 98 | 88 => 101 | 89 => 102 | 90 => 103 | 91 => 104 | 92 => 105 | 68 => 106 | 96 => 107 | n => n, fun | 22 => 23 | 23 => 3 | 3 => 3 | 51 => 97 | 0 => 0 | 67 => 147 | 69 => 149 | 4 => 4 | 61 => 140 | 60 => 139 | 44 => 116 | 5 => 5 | 9 => 9 | 75 => 150 | 79 => 154 | 83 => 156 | 84 => 91 | n => n, fun | n => n⟩
theorem laySort : Go.Proofs.SlLaysN.n53 Try.prog laySort_ren where
  mixed := by kernel_rfl
  f53 := ⟨"slices.Sort[[]int,int]", by decide, Try.func78.trans (congrArg some (by kernel_rfl))⟩
  f59 := ⟨"cmp.Less[int]", by decide, Try.func96.trans (congrArg some (by kernel_rfl))⟩
  f63 := ⟨"slices.pdqsortOrdered[int]", by decide, Try.func86.trans (congrArg some (by kernel_rfl))⟩
  f64 := Try.func87.trans (congrArg some (by kernel_rfl))
  f68 := ⟨"cmp.isNaN[int]", by decide, Try.func106.trans (congrArg some (by kernel_rfl))⟩
  f70 := ⟨"slices.insertionSortOrdered[int]", by decide, Try.func90.trans (congrArg some (by kernel_rfl))⟩
  f71 := ⟨"slices.heapSortOrdered[int]", by decide, Try.func91.trans (congrArg some (by kernel_rfl))⟩
  f72 := ⟨"slices.breakPatternsOrdered[int]", by decide, Try.func92.trans (congrArg some (by kernel_rfl))⟩
  f73 := ⟨"slices.choosePivotOrdered[int]", by decide, Try.func93.trans (congrArg some (by kernel_rfl))⟩
  f74 := ⟨"slices.reverseRangeOrdered[int]", by decide, Try.func94.trans (congrArg some (by kernel_rfl))⟩
  f75 := ⟨"slices.partialInsertionSortOrdered[int]", by decide, Try.func95.trans (congrArg some (by kernel_rfl))⟩
  f76 := ⟨"slices.partitionEqualOrdered[int]", by decide, Try.func97.trans (congrArg some (by kernel_rfl))⟩
  f77 := ⟨"slices.partitionOrdered[int]", by decide, Try.func98.trans (congrArg some (by kernel_rfl))⟩
  f78 := Try.func99.trans (congrArg some (by kernel_rfl))
  f79 := Try.func100.trans (congrArg some (by kernel_rfl))
  f88 := ⟨"slices.siftDownOrdered[int]", by decide, Try.func101.trans (congrArg some (by kernel_rfl))⟩
  f89 := Try.func102.trans (congrArg some (by kernel_rfl))
  f90 := Try.func103.trans (congrArg some (by kernel_rfl))
  f91 := ⟨"slices.medianAdjacentOrdered[int]", by decide, Try.func104.trans (congrArg some (by kernel_rfl))⟩
  f92 := ⟨"slices.medianOrdered[int]", by decide, Try.func105.trans (congrArg some (by kernel_rfl))⟩
  f96 := ⟨"slices.order2Ordered[int]", by decide, Try.func107.trans (congrArg some (by kernel_rfl))⟩
  t0 := Try.underlying0
  a0 := Try.isAgg0
  z0 := Try.sizeOf0
  v0 := Try.zeroValue0
  t3 := Try.underlying3
  a3 := Try.isAgg3
  z3 := Try.sizeOf3
  v3 := Try.zeroValue3
  t4 := Try.underlying4
  a4 := Try.isAgg4
  z4 := Try.sizeOf4
  v4 := Try.zeroValue4
  t5 := Try.underlying5
  a5 := Try.isAgg5
  z5 := Try.sizeOf5
  v5 := Try.zeroValue5
  t9 := Try.underlying9
  a9 := Try.isAgg9
  z9 := Try.sizeOf9
  v9 := Try.zeroValue9
  t22 := Try.underlying23
  a22 := Try.isAgg23
  z22 := Try.sizeOf23
  v22 := Try.zeroValue23
  t23 := Try.underlying3
  a23 := Try.isAgg3
  z23 := Try.sizeOf3
  v23 := Try.zeroValue3
  t44 := Try.underlying116
  a44 := Try.isAgg116
  z44 := Try.sizeOf116
  v44 := Try.zeroValue116
  t51 := Try.underlying97
  a51 := Try.isAgg97
  z51 := Try.sizeOf97
  v51 := Try.zeroValue97
  t60 := Try.underlying139
  a60 := Try.isAgg139
  z60 := Try.sizeOf139
  v60 := Try.zeroValue139
  t61 := Try.underlying140
  a61 := Try.isAgg140
  z61 := Try.sizeOf140
  v61 := Try.zeroValue140
  t67 := Try.underlying147
  a67 := Try.isAgg147
  z67 := Try.sizeOf147
  v67 := Try.zeroValue147
  t69 := Try.underlying149
  a69 := Try.isAgg149
  z69 := Try.sizeOf149
  v69 := Try.zeroValue149
  t75 := Try.underlying150
  a75 := Try.isAgg150
  z75 := Try.sizeOf150
  v75 := Try.zeroValue150
  t79 := Try.underlying154
  a79 := Try.isAgg154
  z79 := Try.sizeOf154
  v79 := Try.zeroValue154
  t83 := Try.underlying156
  a83 := Try.isAgg156
  z83 := Try.sizeOf156
  v83 := Try.zeroValue156
  t84 := Try.underlying91
  a84 := Try.isAgg91
  z84 := Try.sizeOf91
  v84 := Try.zeroValue91
noncomputable def m_slices_Sort_78 (p0 : List Int) : Option (List Int) := if p0.length < 4611686018427387904 then some (sortZ p0) else none
theorem c_slices_Sort_78 {w0 : World} {M : Nat → Prop} {H : List (Nat × Nat × Obj)} {R : List (Nat × Row)} {φ : World → Prop} (p0 : List Int) (Ap0_0 : Option Addr) (cp0_0 : Nat) (hcp0_0 : p0.length ≤ cp0_0) (r : List Int) (hm : m_slices_Sort_78 p0 = some r) :
    Cn Try.prog 78 #[.slice Ap0_0 p0.length cp0_0] ⟨w0, M, H, (1000, ⟨.slice Ap0_0 p0.length cp0_0, 3, 1, p0.length, p0.flatMap (fun x : Int => [Value.int .i64 x])⟩) :: R, φ⟩ (fun x : Unit => .tuple #[]) (fun x => r.length = p0.length) (fun x => ⟨w0, M, H, (1000, ⟨.slice Ap0_0 r.length cp0_0, 3, 1, r.length, r.flatMap (fun x : Int => [Value.int .i64 x])⟩) :: R, φ⟩) := by
  unfold m_slices_Sort_78 at hm
  split at hm
  · injection hm with hm
    subst hm
    rw [← sortZ_eq]
    exact cn_sort (fun blk off cap zs w => AnyG.slices_Sort_int laySort blk off cap zs w) (fun p cap w => AnyG.slices_Sort_int_none laySort p cap w) hcp0_0 (by assumption)
  · cases hm
def layCompact_ren : Go.Shelf.Ren := ⟨fun | 43 => 79 | n => n, fun | 22 => 23 | 23 => 3 | 3 => 3 | 4 => 4 | 0 => 0 | n => n, fun | n => n⟩
theorem layCompact : Go.Proofs.SlLaysN.n43 Try.prog layCompact_ren where
  mixed := by kernel_rfl
  f43 := ⟨"slices.Compact[[]int,int]", by decide, Try.func79.trans (congrArg some (by kernel_rfl))⟩
  t0 := Try.underlying0
  a0 := Try.isAgg0
  z0 := Try.sizeOf0
  v0 := Try.zeroValue0
  t3 := Try.underlying3
  a3 := Try.isAgg3
  z3 := Try.sizeOf3
  v3 := Try.zeroValue3
  t4 := Try.underlying4
  a4 := Try.isAgg4
  z4 := Try.sizeOf4
  v4 := Try.zeroValue4
  t22 := Try.underlying23
  a22 := Try.isAgg23
  z22 := Try.sizeOf23
  v22 := Try.zeroValue23
  t23 := Try.underlying3
  a23 := Try.isAgg3
  z23 := Try.sizeOf3
  v23 := Try.zeroValue3
  i23 := by kernel_rfl
noncomputable def m_slices_Compact_79 (p0 : List Int) : Option (List Int) := some (Lib.compact p0)
theorem c_slices_Compact_79 {w0 : World} {M : Nat → Prop} {H : List (Nat × Nat × Obj)} {R : List (Nat × Row)} {φ : World → Prop} (p0 : List Int) (Ap0_0 : Option Addr) (cp0_0 : Nat) (hcp0_0 : p0.length ≤ cp0_0) (r : List Int) (hm : m_slices_Compact_79 p0 = some r) :
    Cn Try.prog 79 #[.slice Ap0_0 p0.length cp0_0] ⟨w0, M, H, (1000, ⟨.slice Ap0_0 p0.length cp0_0, 3, 1, p0.length, p0.flatMap (fun x : Int => [Value.int .i64 x])⟩) :: R, φ⟩ (fun x : Option Addr × Nat => .slice x.1 r.length x.2) (fun x => r.length ≤ x.2) (fun x => ⟨w0, M, H, (2000, ⟨.slice x.1 r.length x.2, 3, 1, r.length, r.flatMap (fun x : Int => [Value.int .i64 x])⟩) :: R, φ⟩) := by
  injection hm with hm
  subst hm
  exact cn_compact (fun blk off cap zs w => AnyG.slices_Compact_int layCompact blk off cap zs w) (fun p cap w => AnyG.slices_Compact_int_empty layCompact p cap w) hcp0_0
end Go.Proofs.Ytoglbdaagfoddaa
