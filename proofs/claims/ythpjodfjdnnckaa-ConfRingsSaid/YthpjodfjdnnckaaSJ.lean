/-
  The library's Insert, with a seat's numbers (printed by a program of the author's own).
-/
import Derived.Test.YthpjodfjdnnckaaSI
set_option linter.unusedVariables false
namespace Go.Proofs.Ythpjodfjdnnckaa
open Go.RowKit Go.Proofs
def layInsert_ren : Go.Shelf.Ren := ⟨fun | 21 => 28 | 27 => 63 | 28 => 64 | 35 => 81 | 39 => 94 | n => n, fun | 22 => 25 | 3 => 3 | 4 => 4 | 0 => 0 | n => n, fun | n => n⟩
theorem layInsert : Go.Proofs.Lays2.n21 Try.prog layInsert_ren where
  mixed := by kernel_rfl
  f21 := Try.func28.trans (congrArg some (by kernel_rfl))
  f27 := Try.func63.trans (congrArg some (by kernel_rfl))
  f28 := Try.func64.trans (congrArg some (by kernel_rfl))
  f35 := Try.func81.trans (congrArg some (by kernel_rfl))
  f39 := Try.func94.trans (congrArg some (by kernel_rfl))
  t0 := Try.underlying0
  a0 := Try.isAgg0
  z0 := Try.sizeOf0
  v0 := Try.zeroValue0
  t3 := Try.underlying3
  a3 := Try.isAgg3
  z3 := Try.sizeOf3
  v3 := Try.zeroValue3
  t4 := Try.underlying4
  a4 := Try.isAgg4
  z4 := Try.sizeOf4
  v4 := Try.zeroValue4
  t22 := Try.underlying25
  a22 := Try.isAgg25
  z22 := Try.sizeOf25
  v22 := Try.zeroValue25
  i3 := by kernel_rfl
noncomputable def m_slices_Insert_28 (p0 : List Int) (p1 : Int) (p2 : List Int) : Option (List Int) := if 0 ≤ p1 ∧ p1 ≤ p0.length ∧ 0 < p2.length ∧ (p0.length + p2.length) * 8 ≤ 140737488355328 then some (p0.take p1.toNat ++ p2 ++ p0.drop p1.toNat) else none
theorem c_slices_Insert_28 {w0 : World} {M : Nat → Prop} {H : List (Nat × Nat × Obj)} {R : List (Nat × Row)} {φ : World → Prop} (p0 : List Int) (Ap0_0 : Option Addr) (cp0_0 : Nat) (hcp0_0 : p0.length ≤ cp0_0) (p1 : Int) (p2 : List Int) (Ap2_0 : Option Addr) (cp2_0 : Nat) (hcp2_0 : p2.length ≤ cp2_0) (r : List Int) (hm : m_slices_Insert_28 p0 p1 p2 = some r) :
    Cn Try.prog 28 #[.slice Ap0_0 p0.length cp0_0, .int .i64 p1, .slice Ap2_0 p2.length cp2_0] ⟨w0, M, H, (1000, ⟨.slice Ap0_0 p0.length cp0_0, 3, 1, p0.length, p0.flatMap (fun x : Int => [Value.int .i64 x])⟩) :: (1001, ⟨.slice Ap2_0 p2.length cp2_0, 3, 1, p2.length, p2.flatMap (fun x : Int => [Value.int .i64 x])⟩) :: R, φ⟩ (fun x : Option Addr × Nat => .slice x.1 r.length x.2) (fun x => r.length ≤ x.2) (fun x => ⟨w0, M, H, (2000, ⟨.slice x.1 r.length x.2, 3, 1, r.length, r.flatMap (fun x : Int => [Value.int .i64 x])⟩) :: R, φ⟩) := by
  unfold m_slices_Insert_28 at hm
  split at hm
  · rename_i h
    injection hm with hm
    subst hm
    exact cn_insert layInsert rfl rfl h.1 h.2.1 h.2.2.1 h.2.2.2
  · cases hm
end Go.Proofs.Ythpjodfjdnnckaa
