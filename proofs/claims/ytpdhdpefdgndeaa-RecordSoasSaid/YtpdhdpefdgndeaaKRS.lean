/- Readings of a law's arguments, by their types (a program's text, own work). -/
import Derived.Test.YtpdhdpefdgndeaaRD
import Derived.Test.YtpdhdpefdgndeaaWRSB
set_option maxRecDepth 100000
set_option linter.unusedVariables false
set_option linter.unusedSimpArgs false
namespace Go.Proofs.Ytpdhdpefdgndeaa
open Go.ChangeShapes Go.WideShapes Go.ChangeAt Go.RowKit
theorem eC9 : Try.prog.cellsOf 9 = 1 := by kernel_rfl
theorem eC25 : Try.prog.cellsOf 25 = 1 := by kernel_rfl
def GSoa.ok (e : GSoa) : Prop := e.fSource.size ≤ 9223372036854775807 ∧ e.fMail.size ≤ 9223372036854775807 ∧ (0 ≤ e.fSerial ∧ e.fSerial ≤ 4294967295) ∧ (0 ≤ e.fRefresh ∧ e.fRefresh ≤ 4294967295) ∧ (0 ≤ e.fRetry ∧ e.fRetry ≤ 4294967295) ∧ (0 ≤ e.fExpire ∧ e.fExpire ≤ 4294967295) ∧ (0 ≤ e.fMinimum ∧ e.fMinimum ≤ 4294967295)
theorem rd50 {H : Type} {enc : TypeId × Value → H} {W : World} {b0 : Nat} {sp : Nat → Bool} {hd : Bool} {fuel : Nat} {cs : List Value} {x : DataW H × List MemPlace} (h : DataW.trod enc Try.prog W b0 sp hd fuel 50 cs = some x) : ∃ (m : GSoa), cs = GSoa.enc m ∧ m.ok := by
  obtain ⟨xs, n, _, _, hl, hlen, hf⟩ := DataW.trod_struct Try.underlying50 h
  have hl : cs.length = 7 := hl.trans (by kernel_rfl)
  have hx : ∀ i, i < 7 → ∃ y, xs[i]? = some y := fun i hi => ⟨_, List.getElem?_eq_getElem (by rw [hlen]; exact hi)⟩
  match cs, hl with
  | [z0, z1, z2, z3, z4, z5, z6], _ =>
    obtain ⟨y0, g0⟩ := hx 0 (by decide)
    have k0 : DataW.trod enc Try.prog W b0 sp hd n 9 (List.take (Try.prog.cellsOf 9) (List.drop 0 [z0, z1, z2, z3, z4, z5, z6])) = some y0 := (hf 0 _ rfl).trans g0
    rw [eC9] at k0
    replace k0 : DataW.trod enc Try.prog W b0 sp hd n 9 [z0] = some y0 := k0
    obtain ⟨m0, q0, o0⟩ := rd_str Try.underlying9 k0
    obtain ⟨y1, g1⟩ := hx 1 (by decide)
    have k1 : DataW.trod enc Try.prog W b0 sp hd n 9 (List.take (Try.prog.cellsOf 9) (List.drop 1 [z0, z1, z2, z3, z4, z5, z6])) = some y1 := (hf 1 _ rfl).trans g1
    rw [eC9] at k1
    replace k1 : DataW.trod enc Try.prog W b0 sp hd n 9 [z1] = some y1 := k1
    obtain ⟨m1, q1, o1⟩ := rd_str Try.underlying9 k1
    obtain ⟨y2, g2⟩ := hx 2 (by decide)
    have k2 : DataW.trod enc Try.prog W b0 sp hd n 25 (List.take (Try.prog.cellsOf 25) (List.drop 2 [z0, z1, z2, z3, z4, z5, z6])) = some y2 := (hf 2 _ rfl).trans g2
    rw [eC25] at k2
    replace k2 : DataW.trod enc Try.prog W b0 sp hd n 25 [z2] = some y2 := k2
    obtain ⟨m2, q2, o2⟩ := rd_u32 Try.underlying25 k2
    obtain ⟨y3, g3⟩ := hx 3 (by decide)
    have k3 : DataW.trod enc Try.prog W b0 sp hd n 25 (List.take (Try.prog.cellsOf 25) (List.drop 3 [z0, z1, z2, z3, z4, z5, z6])) = some y3 := (hf 3 _ rfl).trans g3
    rw [eC25] at k3
    replace k3 : DataW.trod enc Try.prog W b0 sp hd n 25 [z3] = some y3 := k3
    obtain ⟨m3, q3, o3⟩ := rd_u32 Try.underlying25 k3
    obtain ⟨y4, g4⟩ := hx 4 (by decide)
    have k4 : DataW.trod enc Try.prog W b0 sp hd n 25 (List.take (Try.prog.cellsOf 25) (List.drop 4 [z0, z1, z2, z3, z4, z5, z6])) = some y4 := (hf 4 _ rfl).trans g4
    rw [eC25] at k4
    replace k4 : DataW.trod enc Try.prog W b0 sp hd n 25 [z4] = some y4 := k4
    obtain ⟨m4, q4, o4⟩ := rd_u32 Try.underlying25 k4
    obtain ⟨y5, g5⟩ := hx 5 (by decide)
    have k5 : DataW.trod enc Try.prog W b0 sp hd n 25 (List.take (Try.prog.cellsOf 25) (List.drop 5 [z0, z1, z2, z3, z4, z5, z6])) = some y5 := (hf 5 _ rfl).trans g5
    rw [eC25] at k5
    replace k5 : DataW.trod enc Try.prog W b0 sp hd n 25 [z5] = some y5 := k5
    obtain ⟨m5, q5, o5⟩ := rd_u32 Try.underlying25 k5
    obtain ⟨y6, g6⟩ := hx 6 (by decide)
    have k6 : DataW.trod enc Try.prog W b0 sp hd n 25 (List.take (Try.prog.cellsOf 25) (List.drop 6 [z0, z1, z2, z3, z4, z5, z6])) = some y6 := (hf 6 _ rfl).trans g6
    rw [eC25] at k6
    replace k6 : DataW.trod enc Try.prog W b0 sp hd n 25 [z6] = some y6 := k6
    obtain ⟨m6, q6, o6⟩ := rd_u32 Try.underlying25 k6
    simp only [List.cons.injEq, and_true] at q0
    subst q0
    simp only [List.cons.injEq, and_true] at q1
    subst q1
    simp only [List.cons.injEq, and_true] at q2
    subst q2
    simp only [List.cons.injEq, and_true] at q3
    subst q3
    simp only [List.cons.injEq, and_true] at q4
    subst q4
    simp only [List.cons.injEq, and_true] at q5
    subst q5
    simp only [List.cons.injEq, and_true] at q6
    subst q6
    exact ⟨⟨m0, m1, m2, m3, m4, m5, m6⟩, rfl, ⟨o0, o1, o2, o3, o4, o5, o6⟩⟩
end Go.Proofs.Ytpdhdpefdgndeaa
