/-
  The library's Insert, with a seat's numbers (printed by a program of the author's own).
-/
import Derived.Test.YthpjodfjdnnckaaGreatSI
set_option linter.unusedVariables false
namespace Go.Proofs.YthpjodfjdnnckaaGreat
open Go.RowKit Go.Proofs
def layInsert_ren : Go.Shelf.Ren := ⟨fun | 21 => 29 | 27 => 87 | 28 => 88 | 35 => 108 | 39 => 123 | n => n, fun | 22 => 25 | 3 => 3 | 4 => 4 | 0 => 0 | n => n, fun | n => n⟩
theorem layInsert : Go.Proofs.Lays2.n21 Tryz.prog layInsert_ren where
  mixed := by kernel_rfl
  f21 := Tryz.func29.trans (congrArg some (by kernel_rfl))
  f27 := Tryz.func87.trans (congrArg some (by kernel_rfl))
  f28 := Tryz.func88.trans (congrArg some (by kernel_rfl))
  f35 := Tryz.func108.trans (congrArg some (by kernel_rfl))
  f39 := Tryz.func123.trans (congrArg some (by kernel_rfl))
  t0 := Tryz.underlying0
  a0 := Tryz.isAgg0
  z0 := Tryz.sizeOf0
  v0 := Tryz.zeroValue0
  t3 := Tryz.underlying3
  a3 := Tryz.isAgg3
  z3 := Tryz.sizeOf3
  v3 := Tryz.zeroValue3
  t4 := Tryz.underlying4
  a4 := Tryz.isAgg4
  z4 := Tryz.sizeOf4
  v4 := Tryz.zeroValue4
  t22 := Tryz.underlying25
  a22 := Tryz.isAgg25
  z22 := Tryz.sizeOf25
  v22 := Tryz.zeroValue25
  i3 := by kernel_rfl
noncomputable def m_slices_Insert_29 (p0 : List Int) (p1 : Int) (p2 : List Int) : Option (List Int) := if 0 ≤ p1 ∧ p1 ≤ p0.length ∧ 0 < p2.length ∧ (p0.length + p2.length) * 8 ≤ 140737488355328 then some (p0.take p1.toNat ++ p2 ++ p0.drop p1.toNat) else none
theorem c_slices_Insert_29 {w0 : World} {M : Nat → Prop} {H : List (Nat × Nat × Obj)} {R : List (Nat × Row)} {φ : World → Prop} (p0 : List Int) (Ap0_0 : Option Addr) (cp0_0 : Nat) (hcp0_0 : p0.length ≤ cp0_0) (p1 : Int) (p2 : List Int) (Ap2_0 : Option Addr) (cp2_0 : Nat) (hcp2_0 : p2.length ≤ cp2_0) (r : List Int) (hm : m_slices_Insert_29 p0 p1 p2 = some r) :
    Cn Tryz.prog 29 #[.slice Ap0_0 p0.length cp0_0, .int .i64 p1, .slice Ap2_0 p2.length cp2_0] ⟨w0, M, H, (1000, ⟨.slice Ap0_0 p0.length cp0_0, 3, 1, p0.length, p0.flatMap (fun x : Int => [Value.int .i64 x])⟩) :: (1001, ⟨.slice Ap2_0 p2.length cp2_0, 3, 1, p2.length, p2.flatMap (fun x : Int => [Value.int .i64 x])⟩) :: R, φ⟩ (fun x : Option Addr × Nat => .slice x.1 r.length x.2) (fun x => r.length ≤ x.2) (fun x => ⟨w0, M, H, (2000, ⟨.slice x.1 r.length x.2, 3, 1, r.length, r.flatMap (fun x : Int => [Value.int .i64 x])⟩) :: R, φ⟩) := by
  unfold m_slices_Insert_29 at hm
  split at hm
  · rename_i h
    injection hm with hm
    subst hm
    exact cn_insert layInsert rfl rfl h.1 h.2.1 h.2.2.1 h.2.2.2
  · cases hm
end Go.Proofs.YthpjodfjdnnckaaGreat
