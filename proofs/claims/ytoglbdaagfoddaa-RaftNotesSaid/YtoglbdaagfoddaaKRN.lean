/- Readings of a law's arguments, by their types (a program's text, own work). -/
import Derived.Test.YtoglbdaagfoddaaRD
import Derived.Test.YtoglbdaagfoddaaWRNE
set_option maxRecDepth 100000
set_option linter.unusedVariables false
set_option linter.unusedSimpArgs false
namespace Go.Proofs.Ytoglbdaagfoddaa
open Go.ChangeShapes Go.WideShapes Go.ChangeAt Go.RowKit
theorem eC3 : Try.prog.cellsOf 3 = 1 := by kernel_rfl
theorem eC4 : Try.prog.cellsOf 4 = 1 := by kernel_rfl
theorem eC9 : Try.prog.cellsOf 9 = 1 := by kernel_rfl
def GEntry.ok (e : GEntry) : Prop := ((-9223372036854775808) ≤ e.fTerm ∧ e.fTerm ≤ 9223372036854775807) ∧ ((-9223372036854775808) ≤ e.fKind ∧ e.fKind ≤ 9223372036854775807) ∧ e.fData.size ≤ 9223372036854775807
theorem rd36 {H : Type} {enc : TypeId × Value → H} {W : World} {b0 : Nat} {sp : Nat → Bool} {hd : Bool} {fuel : Nat} {cs : List Value} {x : DataW H × List MemPlace} (h : DataW.trod enc Try.prog W b0 sp hd fuel 36 cs = some x) : ∃ (m : GEntry), cs = GEntry.enc m ∧ m.ok := by
  obtain ⟨xs, n, _, hxs, hl, hlen, hf⟩ := DataW.trod_struct Try.underlying36 h
  have hl : cs.length = 3 := hl.trans (by kernel_rfl)
  have hx : ∀ i, i < 3 → ∃ y, xs[i]? = some y := fun i hi => ⟨_, List.getElem?_eq_getElem (by rw [hlen]; exact hi)⟩
  match cs, hl with
  | [z0, z1, z2], _ =>
    obtain ⟨y0, g0⟩ := hx 0 (by decide)
    have k0 : DataW.trod enc Try.prog W b0 sp hd n 3 (List.take (Try.prog.cellsOf 3) (List.drop 0 [z0, z1, z2])) = some y0 := (hf 0 _ rfl).trans g0
    rw [eC3] at k0
    replace k0 : DataW.trod enc Try.prog W b0 sp hd n 3 [z0] = some y0 := k0
    obtain ⟨m0, q0, o0⟩ := rd_i64 Try.underlying3 k0
    obtain ⟨y1, g1⟩ := hx 1 (by decide)
    have k1 : DataW.trod enc Try.prog W b0 sp hd n 3 (List.take (Try.prog.cellsOf 3) (List.drop 1 [z0, z1, z2])) = some y1 := (hf 1 _ rfl).trans g1
    rw [eC3] at k1
    replace k1 : DataW.trod enc Try.prog W b0 sp hd n 3 [z1] = some y1 := k1
    obtain ⟨m1, q1, o1⟩ := rd_i64 Try.underlying3 k1
    obtain ⟨y2, g2⟩ := hx 2 (by decide)
    have k2 : DataW.trod enc Try.prog W b0 sp hd n 9 (List.take (Try.prog.cellsOf 9) (List.drop 2 [z0, z1, z2])) = some y2 := (hf 2 _ rfl).trans g2
    rw [eC9] at k2
    replace k2 : DataW.trod enc Try.prog W b0 sp hd n 9 [z2] = some y2 := k2
    obtain ⟨m2, q2, o2⟩ := rd_str Try.underlying9 k2
    simp only [List.cons.injEq, and_true] at q0
    subst q0
    simp only [List.cons.injEq, and_true] at q1
    subst q1
    simp only [List.cons.injEq, and_true] at q2
    subst q2
    exact ⟨⟨m0, m1, m2⟩, rfl, ⟨o0, o1, o2⟩⟩
theorem eC36 : Try.prog.cellsOf 36 = 3 := by kernel_rfl
theorem eC22 : Try.prog.cellsOf 22 = 1 := by kernel_rfl
theorem eC23 : Try.prog.cellsOf 23 = 1 := by kernel_rfl
def GNote.ok (e : GNote) : Prop := ((-9223372036854775808) ≤ e.fKind ∧ e.fKind ≤ 9223372036854775807) ∧ ((-9223372036854775808) ≤ e.fFrom ∧ e.fFrom ≤ 9223372036854775807) ∧ ((-9223372036854775808) ≤ e.fTo ∧ e.fTo ≤ 9223372036854775807) ∧ ((-9223372036854775808) ≤ e.fTerm ∧ e.fTerm ≤ 9223372036854775807) ∧ ((-9223372036854775808) ≤ e.fIndex ∧ e.fIndex ≤ 9223372036854775807) ∧ ((-9223372036854775808) ≤ e.fLogTerm ∧ e.fLogTerm ≤ 9223372036854775807) ∧ ((-9223372036854775808) ≤ e.fCommit ∧ e.fCommit ≤ 9223372036854775807) ∧ True ∧ (e.fEntries.length ≤ 9223372036854775807 ∧ ∀ a ∈ e.fEntries, GEntry.ok a) ∧ (e.fVoters.length ≤ 9223372036854775807 ∧ ∀ a ∈ e.fVoters, ((-9223372036854775808) ≤ a ∧ a ≤ 9223372036854775807)) ∧ e.fSnap.size ≤ 9223372036854775807
theorem rd25 {H : Type} {enc : TypeId × Value → H} {W : World} {b0 : Nat} {sp : Nat → Bool} {hd : Bool} {fuel : Nat} {cs : List Value} {x : DataW H × List MemPlace} (h : DataW.trod enc Try.prog W b0 sp hd fuel 25 cs = some x) : ∃ (m : GNote) (A0 : Option Addr) (c0 : Nat) (A1 : Option Addr) (c1 : Nat), cs = [.int .i64 m.fKind, .int .i64 m.fFrom, .int .i64 m.fTo, .int .i64 m.fTerm, .int .i64 m.fIndex, .int .i64 m.fLogTerm, .int .i64 m.fCommit, .bool m.fGood, .slice A0 m.fEntries.length c0, .slice A1 m.fVoters.length c1, .string m.fSnap] ∧ m.ok ∧ m.fEntries.length ≤ c0 ∧ Cl W A0 (m.fEntries.flatMap GEntry.enc) ∧ m.fVoters.length ≤ c1 ∧ Cl W A1 (m.fVoters.flatMap (fun x : Int => [Value.int .i64 x])) := by
  obtain ⟨xs, n, _, hxs, hl, hlen, hf⟩ := DataW.trod_struct Try.underlying25 h
  have hl : cs.length = 11 := hl.trans (by kernel_rfl)
  have hx : ∀ i, i < 11 → ∃ y, xs[i]? = some y := fun i hi => ⟨_, List.getElem?_eq_getElem (by rw [hlen]; exact hi)⟩
  match cs, hl with
  | [z0, z1, z2, z3, z4, z5, z6, z7, z8, z9, z10], _ =>
    obtain ⟨y0, g0⟩ := hx 0 (by decide)
    have k0 : DataW.trod enc Try.prog W b0 sp hd n 3 (List.take (Try.prog.cellsOf 3) (List.drop 0 [z0, z1, z2, z3, z4, z5, z6, z7, z8, z9, z10])) = some y0 := (hf 0 _ rfl).trans g0
    rw [eC3] at k0
    replace k0 : DataW.trod enc Try.prog W b0 sp hd n 3 [z0] = some y0 := k0
    obtain ⟨m0, q0, o0⟩ := rd_i64 Try.underlying3 k0
    obtain ⟨y1, g1⟩ := hx 1 (by decide)
    have k1 : DataW.trod enc Try.prog W b0 sp hd n 3 (List.take (Try.prog.cellsOf 3) (List.drop 1 [z0, z1, z2, z3, z4, z5, z6, z7, z8, z9, z10])) = some y1 := (hf 1 _ rfl).trans g1
    rw [eC3] at k1
    replace k1 : DataW.trod enc Try.prog W b0 sp hd n 3 [z1] = some y1 := k1
    obtain ⟨m1, q1, o1⟩ := rd_i64 Try.underlying3 k1
    obtain ⟨y2, g2⟩ := hx 2 (by decide)
    have k2 : DataW.trod enc Try.prog W b0 sp hd n 3 (List.take (Try.prog.cellsOf 3) (List.drop 2 [z0, z1, z2, z3, z4, z5, z6, z7, z8, z9, z10])) = some y2 := (hf 2 _ rfl).trans g2
    rw [eC3] at k2
    replace k2 : DataW.trod enc Try.prog W b0 sp hd n 3 [z2] = some y2 := k2
    obtain ⟨m2, q2, o2⟩ := rd_i64 Try.underlying3 k2
    obtain ⟨y3, g3⟩ := hx 3 (by decide)
    have k3 : DataW.trod enc Try.prog W b0 sp hd n 3 (List.take (Try.prog.cellsOf 3) (List.drop 3 [z0, z1, z2, z3, z4, z5, z6, z7, z8, z9, z10])) = some y3 := (hf 3 _ rfl).trans g3
    rw [eC3] at k3
    replace k3 : DataW.trod enc Try.prog W b0 sp hd n 3 [z3] = some y3 := k3
    obtain ⟨m3, q3, o3⟩ := rd_i64 Try.underlying3 k3
    obtain ⟨y4, g4⟩ := hx 4 (by decide)
    have k4 : DataW.trod enc Try.prog W b0 sp hd n 3 (List.take (Try.prog.cellsOf 3) (List.drop 4 [z0, z1, z2, z3, z4, z5, z6, z7, z8, z9, z10])) = some y4 := (hf 4 _ rfl).trans g4
    rw [eC3] at k4
    replace k4 : DataW.trod enc Try.prog W b0 sp hd n 3 [z4] = some y4 := k4
    obtain ⟨m4, q4, o4⟩ := rd_i64 Try.underlying3 k4
    obtain ⟨y5, g5⟩ := hx 5 (by decide)
    have k5 : DataW.trod enc Try.prog W b0 sp hd n 3 (List.take (Try.prog.cellsOf 3) (List.drop 5 [z0, z1, z2, z3, z4, z5, z6, z7, z8, z9, z10])) = some y5 := (hf 5 _ rfl).trans g5
    rw [eC3] at k5
    replace k5 : DataW.trod enc Try.prog W b0 sp hd n 3 [z5] = some y5 := k5
    obtain ⟨m5, q5, o5⟩ := rd_i64 Try.underlying3 k5
    obtain ⟨y6, g6⟩ := hx 6 (by decide)
    have k6 : DataW.trod enc Try.prog W b0 sp hd n 3 (List.take (Try.prog.cellsOf 3) (List.drop 6 [z0, z1, z2, z3, z4, z5, z6, z7, z8, z9, z10])) = some y6 := (hf 6 _ rfl).trans g6
    rw [eC3] at k6
    replace k6 : DataW.trod enc Try.prog W b0 sp hd n 3 [z6] = some y6 := k6
    obtain ⟨m6, q6, o6⟩ := rd_i64 Try.underlying3 k6
    obtain ⟨y7, g7⟩ := hx 7 (by decide)
    have k7 : DataW.trod enc Try.prog W b0 sp hd n 4 (List.take (Try.prog.cellsOf 4) (List.drop 7 [z0, z1, z2, z3, z4, z5, z6, z7, z8, z9, z10])) = some y7 := (hf 7 _ rfl).trans g7
    rw [eC4] at k7
    replace k7 : DataW.trod enc Try.prog W b0 sp hd n 4 [z7] = some y7 := k7
    obtain ⟨m7, q7⟩ := rd_bool Try.underlying4 k7
    obtain ⟨y8, g8⟩ := hx 8 (by decide)
    have k8 : DataW.trod enc Try.prog W b0 sp hd n 22 (List.take (Try.prog.cellsOf 22) (List.drop 8 [z0, z1, z2, z3, z4, z5, z6, z7, z8, z9, z10])) = some y8 := (hf 8 _ rfl).trans g8
    rw [eC22] at k8
    replace k8 : DataW.trod enc Try.prog W b0 sp hd n 22 [z8] = some y8 := k8
    obtain ⟨m8, B0, d0, q8, o8, u0, f0⟩ := rd_slice (fun a => GEntry.ok a) Try.underlying22 eC36 (en := GEntry.enc) (fun _ => rfl) (fun _ _ _ h => by obtain ⟨m, hm, ho⟩ := rd36 h; exact ⟨m, hm, ho⟩) k8
    obtain ⟨y9, g9⟩ := hx 9 (by decide)
    have k9 : DataW.trod enc Try.prog W b0 sp hd n 23 (List.take (Try.prog.cellsOf 23) (List.drop 9 [z0, z1, z2, z3, z4, z5, z6, z7, z8, z9, z10])) = some y9 := (hf 9 _ rfl).trans g9
    rw [eC23] at k9
    replace k9 : DataW.trod enc Try.prog W b0 sp hd n 23 [z9] = some y9 := k9
    obtain ⟨m9, B1, d1, q9, o9, u1, f1⟩ := rd_slice (fun a => ((-9223372036854775808) ≤ a ∧ a ≤ 9223372036854775807)) Try.underlying23 eC3 (en := (fun x : Int => [Value.int .i64 x])) (fun _ => rfl) (fun _ _ _ h => rd_i64 Try.underlying3 h) k9
    obtain ⟨y10, g10⟩ := hx 10 (by decide)
    have k10 : DataW.trod enc Try.prog W b0 sp hd n 9 (List.take (Try.prog.cellsOf 9) (List.drop 10 [z0, z1, z2, z3, z4, z5, z6, z7, z8, z9, z10])) = some y10 := (hf 10 _ rfl).trans g10
    rw [eC9] at k10
    replace k10 : DataW.trod enc Try.prog W b0 sp hd n 9 [z10] = some y10 := k10
    obtain ⟨m10, q10, o10⟩ := rd_str Try.underlying9 k10
    simp only [List.cons.injEq, and_true] at q0
    subst q0
    simp only [List.cons.injEq, and_true] at q1
    subst q1
    simp only [List.cons.injEq, and_true] at q2
    subst q2
    simp only [List.cons.injEq, and_true] at q3
    subst q3
    simp only [List.cons.injEq, and_true] at q4
    subst q4
    simp only [List.cons.injEq, and_true] at q5
    subst q5
    simp only [List.cons.injEq, and_true] at q6
    subst q6
    simp only [List.cons.injEq, and_true] at q7
    subst q7
    simp only [List.cons.injEq, and_true] at q8
    subst q8
    simp only [List.cons.injEq, and_true] at q9
    subst q9
    simp only [List.cons.injEq, and_true] at q10
    subst q10
    exact ⟨⟨m0, m1, m2, m3, m4, m5, m6, m7, m8, m9, m10⟩, B0, d0, B1, d1, rfl, ⟨o0, o1, o2, o3, o4, o5, o6, trivial, o8, o9, o10⟩, u0, f0, u1, f1⟩
end Go.Proofs.Ytoglbdaagfoddaa
