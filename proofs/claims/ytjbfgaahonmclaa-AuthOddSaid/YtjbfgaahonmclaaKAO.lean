/- Readings of a law's arguments, by their types (a program's text, own work). -/
import Derived.Test.YtjbfgaahonmclaaRD
import Derived.Test.YtjbfgaahonmclaaWAOB
set_option maxRecDepth 100000
set_option linter.unusedVariables false
set_option linter.unusedSimpArgs false
namespace Go.Proofs.Ytjbfgaahonmclaa
open Go.ChangeShapes Go.WideShapes Go.ChangeAt Go.RowKit
theorem eC22 : Try.prog.cellsOf 22 = 1 := by kernel_rfl
theorem eC4 : Try.prog.cellsOf 4 = 1 := by kernel_rfl
theorem eC3 : Try.prog.cellsOf 3 = 1 := by kernel_rfl
theorem eC9 : Try.prog.cellsOf 9 = 1 := by kernel_rfl
def GQuestion.ok (e : GQuestion) : Prop := e.fName.size ≤ 9223372036854775807 ∧ (0 ≤ e.fType ∧ e.fType ≤ 65535) ∧ (0 ≤ e.fClass ∧ e.fClass ≤ 65535)
theorem rd29 {H : Type} {enc : TypeId × Value → H} {W : World} {b0 : Nat} {sp : Nat → Bool} {hd : Bool} {fuel : Nat} {cs : List Value} {x : DataW H × List MemPlace} (h : DataW.trod enc Try.prog W b0 sp hd fuel 29 cs = some x) : ∃ (m : GQuestion), cs = GQuestion.enc m ∧ m.ok := by
  obtain ⟨xs, n, _, hxs, hl, hlen, hf⟩ := DataW.trod_struct Try.underlying29 h
  have hl : cs.length = 3 := hl.trans (by kernel_rfl)
  have hx : ∀ i, i < 3 → ∃ y, xs[i]? = some y := fun i hi => ⟨_, List.getElem?_eq_getElem (by rw [hlen]; exact hi)⟩
  match cs, hl with
  | [z0, z1, z2], _ =>
    obtain ⟨y0, g0⟩ := hx 0 (by decide)
    have k0 : DataW.trod enc Try.prog W b0 sp hd n 9 (List.take (Try.prog.cellsOf 9) (List.drop 0 [z0, z1, z2])) = some y0 := (hf 0 _ rfl).trans g0
    rw [eC9] at k0
    replace k0 : DataW.trod enc Try.prog W b0 sp hd n 9 [z0] = some y0 := k0
    obtain ⟨m0, q0, o0⟩ := rd_str Try.underlying9 k0
    obtain ⟨y1, g1⟩ := hx 1 (by decide)
    have k1 : DataW.trod enc Try.prog W b0 sp hd n 22 (List.take (Try.prog.cellsOf 22) (List.drop 1 [z0, z1, z2])) = some y1 := (hf 1 _ rfl).trans g1
    rw [eC22] at k1
    replace k1 : DataW.trod enc Try.prog W b0 sp hd n 22 [z1] = some y1 := k1
    obtain ⟨m1, q1, o1⟩ := rd_u16 Try.underlying22 k1
    obtain ⟨y2, g2⟩ := hx 2 (by decide)
    have k2 : DataW.trod enc Try.prog W b0 sp hd n 22 (List.take (Try.prog.cellsOf 22) (List.drop 2 [z0, z1, z2])) = some y2 := (hf 2 _ rfl).trans g2
    rw [eC22] at k2
    replace k2 : DataW.trod enc Try.prog W b0 sp hd n 22 [z2] = some y2 := k2
    obtain ⟨m2, q2, o2⟩ := rd_u16 Try.underlying22 k2
    simp only [List.cons.injEq, and_true] at q0
    subst q0
    simp only [List.cons.injEq, and_true] at q1
    subst q1
    simp only [List.cons.injEq, and_true] at q2
    subst q2
    exact ⟨⟨m0, m1, m2⟩, rfl, ⟨o0, o1, o2⟩⟩
theorem eC29 : Try.prog.cellsOf 29 = 3 := by kernel_rfl
theorem eC23 : Try.prog.cellsOf 23 = 1 := by kernel_rfl
theorem eC40 : Try.prog.cellsOf 40 = 1 := by kernel_rfl
def GRR.ok (e : GRR) : Prop := e.fName.size ≤ 9223372036854775807 ∧ (0 ≤ e.fType ∧ e.fType ≤ 65535) ∧ (0 ≤ e.fClass ∧ e.fClass ≤ 65535) ∧ (0 ≤ e.fTTL ∧ e.fTTL ≤ 4294967295) ∧ e.fData.size ≤ 9223372036854775807
theorem rd42 {H : Type} {enc : TypeId × Value → H} {W : World} {b0 : Nat} {sp : Nat → Bool} {hd : Bool} {fuel : Nat} {cs : List Value} {x : DataW H × List MemPlace} (h : DataW.trod enc Try.prog W b0 sp hd fuel 42 cs = some x) : ∃ (m : GRR), cs = GRR.enc m ∧ m.ok := by
  obtain ⟨xs, n, _, hxs, hl, hlen, hf⟩ := DataW.trod_struct Try.underlying42 h
  have hl : cs.length = 5 := hl.trans (by kernel_rfl)
  have hx : ∀ i, i < 5 → ∃ y, xs[i]? = some y := fun i hi => ⟨_, List.getElem?_eq_getElem (by rw [hlen]; exact hi)⟩
  match cs, hl with
  | [z0, z1, z2, z3, z4], _ =>
    obtain ⟨y0, g0⟩ := hx 0 (by decide)
    have k0 : DataW.trod enc Try.prog W b0 sp hd n 9 (List.take (Try.prog.cellsOf 9) (List.drop 0 [z0, z1, z2, z3, z4])) = some y0 := (hf 0 _ rfl).trans g0
    rw [eC9] at k0
    replace k0 : DataW.trod enc Try.prog W b0 sp hd n 9 [z0] = some y0 := k0
    obtain ⟨m0, q0, o0⟩ := rd_str Try.underlying9 k0
    obtain ⟨y1, g1⟩ := hx 1 (by decide)
    have k1 : DataW.trod enc Try.prog W b0 sp hd n 22 (List.take (Try.prog.cellsOf 22) (List.drop 1 [z0, z1, z2, z3, z4])) = some y1 := (hf 1 _ rfl).trans g1
    rw [eC22] at k1
    replace k1 : DataW.trod enc Try.prog W b0 sp hd n 22 [z1] = some y1 := k1
    obtain ⟨m1, q1, o1⟩ := rd_u16 Try.underlying22 k1
    obtain ⟨y2, g2⟩ := hx 2 (by decide)
    have k2 : DataW.trod enc Try.prog W b0 sp hd n 22 (List.take (Try.prog.cellsOf 22) (List.drop 2 [z0, z1, z2, z3, z4])) = some y2 := (hf 2 _ rfl).trans g2
    rw [eC22] at k2
    replace k2 : DataW.trod enc Try.prog W b0 sp hd n 22 [z2] = some y2 := k2
    obtain ⟨m2, q2, o2⟩ := rd_u16 Try.underlying22 k2
    obtain ⟨y3, g3⟩ := hx 3 (by decide)
    have k3 : DataW.trod enc Try.prog W b0 sp hd n 40 (List.take (Try.prog.cellsOf 40) (List.drop 3 [z0, z1, z2, z3, z4])) = some y3 := (hf 3 _ rfl).trans g3
    rw [eC40] at k3
    replace k3 : DataW.trod enc Try.prog W b0 sp hd n 40 [z3] = some y3 := k3
    obtain ⟨m3, q3, o3⟩ := rd_u32 Try.underlying40 k3
    obtain ⟨y4, g4⟩ := hx 4 (by decide)
    have k4 : DataW.trod enc Try.prog W b0 sp hd n 9 (List.take (Try.prog.cellsOf 9) (List.drop 4 [z0, z1, z2, z3, z4])) = some y4 := (hf 4 _ rfl).trans g4
    rw [eC9] at k4
    replace k4 : DataW.trod enc Try.prog W b0 sp hd n 9 [z4] = some y4 := k4
    obtain ⟨m4, q4, o4⟩ := rd_str Try.underlying9 k4
    simp only [List.cons.injEq, and_true] at q0
    subst q0
    simp only [List.cons.injEq, and_true] at q1
    subst q1
    simp only [List.cons.injEq, and_true] at q2
    subst q2
    simp only [List.cons.injEq, and_true] at q3
    subst q3
    simp only [List.cons.injEq, and_true] at q4
    subst q4
    exact ⟨⟨m0, m1, m2, m3, m4⟩, rfl, ⟨o0, o1, o2, o3, o4⟩⟩
theorem eC42 : Try.prog.cellsOf 42 = 5 := by kernel_rfl
theorem eC24 : Try.prog.cellsOf 24 = 1 := by kernel_rfl
def GMessage.ok (e : GMessage) : Prop := (0 ≤ e.fID ∧ e.fID ≤ 65535) ∧ True ∧ True ∧ True ∧ True ∧ True ∧ ((-9223372036854775808) ≤ e.fOpcode ∧ e.fOpcode ≤ 9223372036854775807) ∧ ((-9223372036854775808) ≤ e.fCode ∧ e.fCode ≤ 9223372036854775807) ∧ (e.fQuestions.length ≤ 9223372036854775807 ∧ ∀ a ∈ e.fQuestions, GQuestion.ok a) ∧ (e.fAnswers.length ≤ 9223372036854775807 ∧ ∀ a ∈ e.fAnswers, GRR.ok a) ∧ (e.fAuthorities.length ≤ 9223372036854775807 ∧ ∀ a ∈ e.fAuthorities, GRR.ok a) ∧ (e.fExtras.length ≤ 9223372036854775807 ∧ ∀ a ∈ e.fExtras, GRR.ok a)
theorem rd26 {H : Type} {enc : TypeId × Value → H} {W : World} {b0 : Nat} {sp : Nat → Bool} {hd : Bool} {fuel : Nat} {cs : List Value} {x : DataW H × List MemPlace} (h : DataW.trod enc Try.prog W b0 sp hd fuel 26 cs = some x) : ∃ (m : GMessage) (A0 : Option Addr) (c0 : Nat) (A1 : Option Addr) (c1 : Nat) (A2 : Option Addr) (c2 : Nat) (A3 : Option Addr) (c3 : Nat), cs = [.int .u16 m.fID, .bool m.fResponse, .bool m.fAuthoritative, .bool m.fTruncated, .bool m.fDesired, .bool m.fAvailable, .int .i64 m.fOpcode, .int .i64 m.fCode, .slice A0 m.fQuestions.length c0, .slice A1 m.fAnswers.length c1, .slice A2 m.fAuthorities.length c2, .slice A3 m.fExtras.length c3] ∧ m.ok ∧ m.fQuestions.length ≤ c0 ∧ Cl W A0 (m.fQuestions.flatMap GQuestion.enc) ∧ m.fAnswers.length ≤ c1 ∧ Cl W A1 (m.fAnswers.flatMap GRR.enc) ∧ m.fAuthorities.length ≤ c2 ∧ Cl W A2 (m.fAuthorities.flatMap GRR.enc) ∧ m.fExtras.length ≤ c3 ∧ Cl W A3 (m.fExtras.flatMap GRR.enc) := by
  obtain ⟨xs, n, _, hxs, hl, hlen, hf⟩ := DataW.trod_struct Try.underlying26 h
  have hl : cs.length = 12 := hl.trans (by kernel_rfl)
  have hx : ∀ i, i < 12 → ∃ y, xs[i]? = some y := fun i hi => ⟨_, List.getElem?_eq_getElem (by rw [hlen]; exact hi)⟩
  match cs, hl with
  | [z0, z1, z2, z3, z4, z5, z6, z7, z8, z9, z10, z11], _ =>
    obtain ⟨y0, g0⟩ := hx 0 (by decide)
    have k0 : DataW.trod enc Try.prog W b0 sp hd n 22 (List.take (Try.prog.cellsOf 22) (List.drop 0 [z0, z1, z2, z3, z4, z5, z6, z7, z8, z9, z10, z11])) = some y0 := (hf 0 _ rfl).trans g0
    rw [eC22] at k0
    replace k0 : DataW.trod enc Try.prog W b0 sp hd n 22 [z0] = some y0 := k0
    obtain ⟨m0, q0, o0⟩ := rd_u16 Try.underlying22 k0
    obtain ⟨y1, g1⟩ := hx 1 (by decide)
    have k1 : DataW.trod enc Try.prog W b0 sp hd n 4 (List.take (Try.prog.cellsOf 4) (List.drop 1 [z0, z1, z2, z3, z4, z5, z6, z7, z8, z9, z10, z11])) = some y1 := (hf 1 _ rfl).trans g1
    rw [eC4] at k1
    replace k1 : DataW.trod enc Try.prog W b0 sp hd n 4 [z1] = some y1 := k1
    obtain ⟨m1, q1⟩ := rd_bool Try.underlying4 k1
    obtain ⟨y2, g2⟩ := hx 2 (by decide)
    have k2 : DataW.trod enc Try.prog W b0 sp hd n 4 (List.take (Try.prog.cellsOf 4) (List.drop 2 [z0, z1, z2, z3, z4, z5, z6, z7, z8, z9, z10, z11])) = some y2 := (hf 2 _ rfl).trans g2
    rw [eC4] at k2
    replace k2 : DataW.trod enc Try.prog W b0 sp hd n 4 [z2] = some y2 := k2
    obtain ⟨m2, q2⟩ := rd_bool Try.underlying4 k2
    obtain ⟨y3, g3⟩ := hx 3 (by decide)
    have k3 : DataW.trod enc Try.prog W b0 sp hd n 4 (List.take (Try.prog.cellsOf 4) (List.drop 3 [z0, z1, z2, z3, z4, z5, z6, z7, z8, z9, z10, z11])) = some y3 := (hf 3 _ rfl).trans g3
    rw [eC4] at k3
    replace k3 : DataW.trod enc Try.prog W b0 sp hd n 4 [z3] = some y3 := k3
    obtain ⟨m3, q3⟩ := rd_bool Try.underlying4 k3
    obtain ⟨y4, g4⟩ := hx 4 (by decide)
    have k4 : DataW.trod enc Try.prog W b0 sp hd n 4 (List.take (Try.prog.cellsOf 4) (List.drop 4 [z0, z1, z2, z3, z4, z5, z6, z7, z8, z9, z10, z11])) = some y4 := (hf 4 _ rfl).trans g4
    rw [eC4] at k4
    replace k4 : DataW.trod enc Try.prog W b0 sp hd n 4 [z4] = some y4 := k4
    obtain ⟨m4, q4⟩ := rd_bool Try.underlying4 k4
    obtain ⟨y5, g5⟩ := hx 5 (by decide)
    have k5 : DataW.trod enc Try.prog W b0 sp hd n 4 (List.take (Try.prog.cellsOf 4) (List.drop 5 [z0, z1, z2, z3, z4, z5, z6, z7, z8, z9, z10, z11])) = some y5 := (hf 5 _ rfl).trans g5
    rw [eC4] at k5
    replace k5 : DataW.trod enc Try.prog W b0 sp hd n 4 [z5] = some y5 := k5
    obtain ⟨m5, q5⟩ := rd_bool Try.underlying4 k5
    obtain ⟨y6, g6⟩ := hx 6 (by decide)
    have k6 : DataW.trod enc Try.prog W b0 sp hd n 3 (List.take (Try.prog.cellsOf 3) (List.drop 6 [z0, z1, z2, z3, z4, z5, z6, z7, z8, z9, z10, z11])) = some y6 := (hf 6 _ rfl).trans g6
    rw [eC3] at k6
    replace k6 : DataW.trod enc Try.prog W b0 sp hd n 3 [z6] = some y6 := k6
    obtain ⟨m6, q6, o6⟩ := rd_i64 Try.underlying3 k6
    obtain ⟨y7, g7⟩ := hx 7 (by decide)
    have k7 : DataW.trod enc Try.prog W b0 sp hd n 3 (List.take (Try.prog.cellsOf 3) (List.drop 7 [z0, z1, z2, z3, z4, z5, z6, z7, z8, z9, z10, z11])) = some y7 := (hf 7 _ rfl).trans g7
    rw [eC3] at k7
    replace k7 : DataW.trod enc Try.prog W b0 sp hd n 3 [z7] = some y7 := k7
    obtain ⟨m7, q7, o7⟩ := rd_i64 Try.underlying3 k7
    obtain ⟨y8, g8⟩ := hx 8 (by decide)
    have k8 : DataW.trod enc Try.prog W b0 sp hd n 23 (List.take (Try.prog.cellsOf 23) (List.drop 8 [z0, z1, z2, z3, z4, z5, z6, z7, z8, z9, z10, z11])) = some y8 := (hf 8 _ rfl).trans g8
    rw [eC23] at k8
    replace k8 : DataW.trod enc Try.prog W b0 sp hd n 23 [z8] = some y8 := k8
    obtain ⟨m8, B0, d0, q8, o8, u0, f0⟩ := rd_slice (fun a => GQuestion.ok a) Try.underlying23 eC29 (en := GQuestion.enc) (fun _ => rfl) (fun _ _ _ h => by obtain ⟨m, hm, ho⟩ := rd29 h; exact ⟨m, hm, ho⟩) k8
    obtain ⟨y9, g9⟩ := hx 9 (by decide)
    have k9 : DataW.trod enc Try.prog W b0 sp hd n 24 (List.take (Try.prog.cellsOf 24) (List.drop 9 [z0, z1, z2, z3, z4, z5, z6, z7, z8, z9, z10, z11])) = some y9 := (hf 9 _ rfl).trans g9
    rw [eC24] at k9
    replace k9 : DataW.trod enc Try.prog W b0 sp hd n 24 [z9] = some y9 := k9
    obtain ⟨m9, B1, d1, q9, o9, u1, f1⟩ := rd_slice (fun a => GRR.ok a) Try.underlying24 eC42 (en := GRR.enc) (fun _ => rfl) (fun _ _ _ h => by obtain ⟨m, hm, ho⟩ := rd42 h; exact ⟨m, hm, ho⟩) k9
    obtain ⟨y10, g10⟩ := hx 10 (by decide)
    have k10 : DataW.trod enc Try.prog W b0 sp hd n 24 (List.take (Try.prog.cellsOf 24) (List.drop 10 [z0, z1, z2, z3, z4, z5, z6, z7, z8, z9, z10, z11])) = some y10 := (hf 10 _ rfl).trans g10
    rw [eC24] at k10
    replace k10 : DataW.trod enc Try.prog W b0 sp hd n 24 [z10] = some y10 := k10
    obtain ⟨m10, B2, d2, q10, o10, u2, f2⟩ := rd_slice (fun a => GRR.ok a) Try.underlying24 eC42 (en := GRR.enc) (fun _ => rfl) (fun _ _ _ h => by obtain ⟨m, hm, ho⟩ := rd42 h; exact ⟨m, hm, ho⟩) k10
    obtain ⟨y11, g11⟩ := hx 11 (by decide)
    have k11 : DataW.trod enc Try.prog W b0 sp hd n 24 (List.take (Try.prog.cellsOf 24) (List.drop 11 [z0, z1, z2, z3, z4, z5, z6, z7, z8, z9, z10, z11])) = some y11 := (hf 11 _ rfl).trans g11
    rw [eC24] at k11
    replace k11 : DataW.trod enc Try.prog W b0 sp hd n 24 [z11] = some y11 := k11
    obtain ⟨m11, B3, d3, q11, o11, u3, f3⟩ := rd_slice (fun a => GRR.ok a) Try.underlying24 eC42 (en := GRR.enc) (fun _ => rfl) (fun _ _ _ h => by obtain ⟨m, hm, ho⟩ := rd42 h; exact ⟨m, hm, ho⟩) k11
    simp only [List.cons.injEq, and_true] at q0
    subst q0
    simp only [List.cons.injEq, and_true] at q1
    subst q1
    simp only [List.cons.injEq, and_true] at q2
    subst q2
    simp only [List.cons.injEq, and_true] at q3
    subst q3
    simp only [List.cons.injEq, and_true] at q4
    subst q4
    simp only [List.cons.injEq, and_true] at q5
    subst q5
    simp only [List.cons.injEq, and_true] at q6
    subst q6
    simp only [List.cons.injEq, and_true] at q7
    subst q7
    simp only [List.cons.injEq, and_true] at q8
    subst q8
    simp only [List.cons.injEq, and_true] at q9
    subst q9
    simp only [List.cons.injEq, and_true] at q10
    subst q10
    simp only [List.cons.injEq, and_true] at q11
    subst q11
    exact ⟨⟨m0, m1, m2, m3, m4, m5, m6, m7, m8, m9, m10, m11⟩, B0, d0, B1, d1, B2, d2, B3, d3, rfl, ⟨o0, trivial, trivial, trivial, trivial, trivial, o6, o7, o8, o9, o10, o11⟩, u0, f0, u1, f1, u2, f2, u3, f3⟩
end Go.Proofs.Ytjbfgaahonmclaa
