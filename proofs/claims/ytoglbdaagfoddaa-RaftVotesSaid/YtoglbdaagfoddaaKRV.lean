/- Readings of a law's arguments, by their types (a program's text, own work). -/
import Derived.Test.YtoglbdaagfoddaaRD
import Derived.Test.YtoglbdaagfoddaaWRVD
set_option maxRecDepth 100000
set_option linter.unusedVariables false
set_option linter.unusedSimpArgs false
namespace Go.Proofs.Ytoglbdaagfoddaa
open Go.ChangeShapes Go.WideShapes Go.ChangeAt Go.RowKit
theorem eC3 : Try.prog.cellsOf 3 = 1 := by kernel_rfl
def Glaw12_Act.ok (e : Glaw12_Act) : Prop := ((-9223372036854775808) ≤ e.fKind ∧ e.fKind ≤ 9223372036854775807) ∧ ((-9223372036854775808) ≤ e.fA ∧ e.fA ≤ 9223372036854775807) ∧ ((-9223372036854775808) ≤ e.fB ∧ e.fB ≤ 9223372036854775807) ∧ ((-9223372036854775808) ≤ e.fPick ∧ e.fPick ≤ 9223372036854775807) ∧ ((-9223372036854775808) ≤ e.fTimeout ∧ e.fTimeout ≤ 9223372036854775807)
theorem rd47 {H : Type} {enc : TypeId × Value → H} {W : World} {b0 : Nat} {sp : Nat → Bool} {hd : Bool} {fuel : Nat} {cs : List Value} {x : DataW H × List MemPlace} (h : DataW.trod enc Try.prog W b0 sp hd fuel 47 cs = some x) : ∃ (m : Glaw12_Act), cs = Glaw12_Act.enc m ∧ m.ok := by
  obtain ⟨xs, n, _, hxs, hl, hlen, hf⟩ := DataW.trod_struct Try.underlying47 h
  have hl : cs.length = 5 := hl.trans (by kernel_rfl)
  have hx : ∀ i, i < 5 → ∃ y, xs[i]? = some y := fun i hi => ⟨_, List.getElem?_eq_getElem (by rw [hlen]; exact hi)⟩
  match cs, hl with
  | [z0, z1, z2, z3, z4], _ =>
    obtain ⟨y0, g0⟩ := hx 0 (by decide)
    have k0 : DataW.trod enc Try.prog W b0 sp hd n 3 (List.take (Try.prog.cellsOf 3) (List.drop 0 [z0, z1, z2, z3, z4])) = some y0 := (hf 0 _ rfl).trans g0
    rw [eC3] at k0
    replace k0 : DataW.trod enc Try.prog W b0 sp hd n 3 [z0] = some y0 := k0
    obtain ⟨m0, q0, o0⟩ := rd_i64 Try.underlying3 k0
    obtain ⟨y1, g1⟩ := hx 1 (by decide)
    have k1 : DataW.trod enc Try.prog W b0 sp hd n 3 (List.take (Try.prog.cellsOf 3) (List.drop 1 [z0, z1, z2, z3, z4])) = some y1 := (hf 1 _ rfl).trans g1
    rw [eC3] at k1
    replace k1 : DataW.trod enc Try.prog W b0 sp hd n 3 [z1] = some y1 := k1
    obtain ⟨m1, q1, o1⟩ := rd_i64 Try.underlying3 k1
    obtain ⟨y2, g2⟩ := hx 2 (by decide)
    have k2 : DataW.trod enc Try.prog W b0 sp hd n 3 (List.take (Try.prog.cellsOf 3) (List.drop 2 [z0, z1, z2, z3, z4])) = some y2 := (hf 2 _ rfl).trans g2
    rw [eC3] at k2
    replace k2 : DataW.trod enc Try.prog W b0 sp hd n 3 [z2] = some y2 := k2
    obtain ⟨m2, q2, o2⟩ := rd_i64 Try.underlying3 k2
    obtain ⟨y3, g3⟩ := hx 3 (by decide)
    have k3 : DataW.trod enc Try.prog W b0 sp hd n 3 (List.take (Try.prog.cellsOf 3) (List.drop 3 [z0, z1, z2, z3, z4])) = some y3 := (hf 3 _ rfl).trans g3
    rw [eC3] at k3
    replace k3 : DataW.trod enc Try.prog W b0 sp hd n 3 [z3] = some y3 := k3
    obtain ⟨m3, q3, o3⟩ := rd_i64 Try.underlying3 k3
    obtain ⟨y4, g4⟩ := hx 4 (by decide)
    have k4 : DataW.trod enc Try.prog W b0 sp hd n 3 (List.take (Try.prog.cellsOf 3) (List.drop 4 [z0, z1, z2, z3, z4])) = some y4 := (hf 4 _ rfl).trans g4
    rw [eC3] at k4
    replace k4 : DataW.trod enc Try.prog W b0 sp hd n 3 [z4] = some y4 := k4
    obtain ⟨m4, q4, o4⟩ := rd_i64 Try.underlying3 k4
    simp only [List.cons.injEq, and_true] at q0
    subst q0
    simp only [List.cons.injEq, and_true] at q1
    subst q1
    simp only [List.cons.injEq, and_true] at q2
    subst q2
    simp only [List.cons.injEq, and_true] at q3
    subst q3
    simp only [List.cons.injEq, and_true] at q4
    subst q4
    exact ⟨⟨m0, m1, m2, m3, m4⟩, rfl, ⟨o0, o1, o2, o3, o4⟩⟩
theorem eC47 : Try.prog.cellsOf 47 = 5 := by kernel_rfl
def Garray33.ok (e : Garray33) : Prop := ((-9223372036854775808) ≤ e.a0 ∧ e.a0 ≤ 9223372036854775807) ∧ ((-9223372036854775808) ≤ e.a1 ∧ e.a1 ≤ 9223372036854775807)
theorem rd33 {H : Type} {enc : TypeId × Value → H} {W : World} {b0 : Nat} {sp : Nat → Bool} {hd : Bool} {fuel : Nat} {cs : List Value} {x : DataW H × List MemPlace} (h : DataW.trod enc Try.prog W b0 sp hd fuel 33 cs = some x) : ∃ (m : Garray33), cs = Garray33.enc m ∧ m.ok := by
  obtain ⟨xs, n, _, hxs, hl, hlen, hf⟩ := DataW.trod_array Try.underlying33 h
  have hl : cs.length = 2 := hl.trans (by kernel_rfl)
  have hx : ∀ i, i < 2 → ∃ y, xs[i]? = some y := fun i hi => ⟨_, List.getElem?_eq_getElem (by rw [hlen]; exact hi)⟩
  match cs, hl with
  | [z0, z1], _ =>
    obtain ⟨y0, g0⟩ := hx 0 (by decide)
    have k0 : DataW.trod enc Try.prog W b0 sp hd n 3 (List.take (Try.prog.cellsOf 3) (List.drop (0 * Try.prog.cellsOf 3) [z0, z1])) = some y0 := (hf 0 (by decide)).trans g0
    rw [eC3] at k0
    replace k0 : DataW.trod enc Try.prog W b0 sp hd n 3 [z0] = some y0 := k0
    obtain ⟨m0, q0, o0⟩ := rd_i64 Try.underlying3 k0
    obtain ⟨y1, g1⟩ := hx 1 (by decide)
    have k1 : DataW.trod enc Try.prog W b0 sp hd n 3 (List.take (Try.prog.cellsOf 3) (List.drop (1 * Try.prog.cellsOf 3) [z0, z1])) = some y1 := (hf 1 (by decide)).trans g1
    rw [eC3] at k1
    replace k1 : DataW.trod enc Try.prog W b0 sp hd n 3 [z1] = some y1 := k1
    obtain ⟨m1, q1, o1⟩ := rd_i64 Try.underlying3 k1
    simp only [List.cons.injEq, and_true] at q0
    subst q0
    simp only [List.cons.injEq, and_true] at q1
    subst q1
    exact ⟨⟨m0, m1⟩, rfl, ⟨o0, o1⟩⟩
end Go.Proofs.Ytoglbdaagfoddaa
