/- Readings of a law's arguments, by their types (a program's text, own work). -/
import Derived.Test.YtildknbbpkbkeabRD
import Derived.Test.YtildknbbpkbkeabV6C
set_option maxRecDepth 100000
set_option linter.unusedVariables false
set_option linter.unusedSimpArgs false
namespace Go.Proofs.Ytildknbbpkbkeab
open Go.ChangeShapes Go.WideShapes Go.ChangeAt Go.RowKit
theorem eC3 : Try.prog.cellsOf 3 = 1 := by kernel_rfl
theorem eC25 : Try.prog.cellsOf 25 = 1 := by kernel_rfl
theorem eC9 : Try.prog.cellsOf 9 = 1 := by kernel_rfl
def GEntry.ok (e : GEntry) : Prop := ((-9223372036854775808) ≤ e.fTerm ∧ e.fTerm ≤ 9223372036854775807) ∧ ((-9223372036854775808) ≤ e.fKind ∧ e.fKind ≤ 9223372036854775807) ∧ e.fData.size ≤ 9223372036854775807
theorem rd46 {H : Type} {enc : TypeId × Value → H} {W : World} {b0 : Nat} {sp : Nat → Bool} {hd : Bool} {fuel : Nat} {cs : List Value} {x : DataW H × List MemPlace} (h : DataW.trod enc Try.prog W b0 sp hd fuel 46 cs = some x) : ∃ (m : GEntry), cs = GEntry.enc m ∧ m.ok := by
  obtain ⟨xs, n, _, _, hl, hlen, hf⟩ := DataW.trod_struct Try.underlying46 h
  have hl : cs.length = 3 := hl.trans (by kernel_rfl)
  have hx : ∀ i, i < 3 → ∃ y, xs[i]? = some y := fun i hi => ⟨_, List.getElem?_eq_getElem (by rw [hlen]; exact hi)⟩
  match cs, hl with
  | [z0, z1, z2], _ =>
    obtain ⟨y0, g0⟩ := hx 0 (by decide)
    have k0 : DataW.trod enc Try.prog W b0 sp hd n 3 (List.take (Try.prog.cellsOf 3) (List.drop 0 [z0, z1, z2])) = some y0 := (hf 0 _ rfl).trans g0
    rw [eC3] at k0
    replace k0 : DataW.trod enc Try.prog W b0 sp hd n 3 [z0] = some y0 := k0
    obtain ⟨m0, q0, o0⟩ := rd_i64 Try.underlying3 k0
    obtain ⟨y1, g1⟩ := hx 1 (by decide)
    have k1 : DataW.trod enc Try.prog W b0 sp hd n 3 (List.take (Try.prog.cellsOf 3) (List.drop 1 [z0, z1, z2])) = some y1 := (hf 1 _ rfl).trans g1
    rw [eC3] at k1
    replace k1 : DataW.trod enc Try.prog W b0 sp hd n 3 [z1] = some y1 := k1
    obtain ⟨m1, q1, o1⟩ := rd_i64 Try.underlying3 k1
    obtain ⟨y2, g2⟩ := hx 2 (by decide)
    have k2 : DataW.trod enc Try.prog W b0 sp hd n 9 (List.take (Try.prog.cellsOf 9) (List.drop 2 [z0, z1, z2])) = some y2 := (hf 2 _ rfl).trans g2
    rw [eC9] at k2
    replace k2 : DataW.trod enc Try.prog W b0 sp hd n 9 [z2] = some y2 := k2
    obtain ⟨m2, q2, o2⟩ := rd_str Try.underlying9 k2
    simp only [List.cons.injEq, and_true] at q0
    subst q0
    simp only [List.cons.injEq, and_true] at q1
    subst q1
    simp only [List.cons.injEq, and_true] at q2
    subst q2
    exact ⟨⟨m0, m1, m2⟩, rfl, ⟨o0, o1, o2⟩⟩
theorem eC46 : Try.prog.cellsOf 46 = 3 := by kernel_rfl
theorem eC26 : Try.prog.cellsOf 26 = 1 := by kernel_rfl
def GLog.ok (e : GLog) : Prop := ((-9223372036854775808) ≤ e.fBase ∧ e.fBase ≤ 9223372036854775807) ∧ ((-9223372036854775808) ≤ e.fBaseTerm ∧ e.fBaseTerm ≤ 9223372036854775807) ∧ (e.fEntries.length ≤ 9223372036854775807 ∧ ∀ a ∈ e.fEntries, GEntry.ok a)
theorem rd28 {H : Type} {enc : TypeId × Value → H} {W : World} {b0 : Nat} {sp : Nat → Bool} {hd : Bool} {fuel : Nat} {cs : List Value} {x : DataW H × List MemPlace} (h : DataW.trod enc Try.prog W b0 sp hd fuel 28 cs = some x) : ∃ (m : GLog) (A0 : Option Addr) (c0 : Nat), cs = [.int .i64 m.fBase, .int .i64 m.fBaseTerm, .slice A0 m.fEntries.length c0] ∧ m.ok ∧ m.fEntries.length ≤ c0 ∧ Cl W A0 (m.fEntries.flatMap GEntry.enc) := by
  obtain ⟨xs, n, _, _, hl, hlen, hf⟩ := DataW.trod_struct Try.underlying28 h
  have hl : cs.length = 3 := hl.trans (by kernel_rfl)
  have hx : ∀ i, i < 3 → ∃ y, xs[i]? = some y := fun i hi => ⟨_, List.getElem?_eq_getElem (by rw [hlen]; exact hi)⟩
  match cs, hl with
  | [z0, z1, z2], _ =>
    obtain ⟨y0, g0⟩ := hx 0 (by decide)
    have k0 : DataW.trod enc Try.prog W b0 sp hd n 3 (List.take (Try.prog.cellsOf 3) (List.drop 0 [z0, z1, z2])) = some y0 := (hf 0 _ rfl).trans g0
    rw [eC3] at k0
    replace k0 : DataW.trod enc Try.prog W b0 sp hd n 3 [z0] = some y0 := k0
    obtain ⟨m0, q0, o0⟩ := rd_i64 Try.underlying3 k0
    obtain ⟨y1, g1⟩ := hx 1 (by decide)
    have k1 : DataW.trod enc Try.prog W b0 sp hd n 3 (List.take (Try.prog.cellsOf 3) (List.drop 1 [z0, z1, z2])) = some y1 := (hf 1 _ rfl).trans g1
    rw [eC3] at k1
    replace k1 : DataW.trod enc Try.prog W b0 sp hd n 3 [z1] = some y1 := k1
    obtain ⟨m1, q1, o1⟩ := rd_i64 Try.underlying3 k1
    obtain ⟨y2, g2⟩ := hx 2 (by decide)
    have k2 : DataW.trod enc Try.prog W b0 sp hd n 26 (List.take (Try.prog.cellsOf 26) (List.drop 2 [z0, z1, z2])) = some y2 := (hf 2 _ rfl).trans g2
    rw [eC26] at k2
    replace k2 : DataW.trod enc Try.prog W b0 sp hd n 26 [z2] = some y2 := k2
    obtain ⟨m2, B0, d0, q2, o2, u0, f0⟩ := rd_slice (fun a => GEntry.ok a) Try.underlying26 eC46 (en := GEntry.enc) (fun _ => rfl) (fun _ _ _ h => by obtain ⟨m, hm, ho⟩ := rd46 h; exact ⟨m, hm, ho⟩) k2
    simp only [List.cons.injEq, and_true] at q0
    subst q0
    simp only [List.cons.injEq, and_true] at q1
    subst q1
    simp only [List.cons.injEq, and_true] at q2
    subst q2
    exact ⟨⟨m0, m1, m2⟩, B0, d0, rfl, ⟨o0, o1, o2⟩, u0, f0⟩
theorem eC28 : Try.prog.cellsOf 28 = 3 := by kernel_rfl
def GHard.ok (e : GHard) : Prop := ((-9223372036854775808) ≤ e.fTerm ∧ e.fTerm ≤ 9223372036854775807) ∧ ((-9223372036854775808) ≤ e.fVote ∧ e.fVote ≤ 9223372036854775807) ∧ (e.fVoters.length ≤ 9223372036854775807 ∧ ∀ a ∈ e.fVoters, ((-9223372036854775808) ≤ a ∧ a ≤ 9223372036854775807)) ∧ e.fSnap.size ≤ 9223372036854775807 ∧ GLog.ok e.fLog
theorem rd30 {H : Type} {enc : TypeId × Value → H} {W : World} {b0 : Nat} {sp : Nat → Bool} {hd : Bool} {fuel : Nat} {cs : List Value} {x : DataW H × List MemPlace} (h : DataW.trod enc Try.prog W b0 sp hd fuel 30 cs = some x) : ∃ (m : GHard) (A0 : Option Addr) (c0 : Nat) (A1 : Option Addr) (c1 : Nat), cs = [.int .i64 m.fTerm, .int .i64 m.fVote, .slice A0 m.fVoters.length c0, .string m.fSnap, .int .i64 m.fLog.fBase, .int .i64 m.fLog.fBaseTerm, .slice A1 m.fLog.fEntries.length c1] ∧ m.ok ∧ m.fVoters.length ≤ c0 ∧ Cl W A0 (m.fVoters.flatMap (fun x : Int => [Value.int .i64 x])) ∧ m.fLog.fEntries.length ≤ c1 ∧ Cl W A1 (m.fLog.fEntries.flatMap GEntry.enc) := by
  obtain ⟨xs, n, _, _, hl, hlen, hf⟩ := DataW.trod_struct Try.underlying30 h
  have hl : cs.length = 7 := hl.trans (by kernel_rfl)
  have hx : ∀ i, i < 5 → ∃ y, xs[i]? = some y := fun i hi => ⟨_, List.getElem?_eq_getElem (by rw [hlen]; exact hi)⟩
  match cs, hl with
  | [z0, z1, z2, z3, z4, z5, z6], _ =>
    obtain ⟨y0, g0⟩ := hx 0 (by decide)
    have k0 : DataW.trod enc Try.prog W b0 sp hd n 3 (List.take (Try.prog.cellsOf 3) (List.drop 0 [z0, z1, z2, z3, z4, z5, z6])) = some y0 := (hf 0 _ rfl).trans g0
    rw [eC3] at k0
    replace k0 : DataW.trod enc Try.prog W b0 sp hd n 3 [z0] = some y0 := k0
    obtain ⟨m0, q0, o0⟩ := rd_i64 Try.underlying3 k0
    obtain ⟨y1, g1⟩ := hx 1 (by decide)
    have k1 : DataW.trod enc Try.prog W b0 sp hd n 3 (List.take (Try.prog.cellsOf 3) (List.drop 1 [z0, z1, z2, z3, z4, z5, z6])) = some y1 := (hf 1 _ rfl).trans g1
    rw [eC3] at k1
    replace k1 : DataW.trod enc Try.prog W b0 sp hd n 3 [z1] = some y1 := k1
    obtain ⟨m1, q1, o1⟩ := rd_i64 Try.underlying3 k1
    obtain ⟨y2, g2⟩ := hx 2 (by decide)
    have k2 : DataW.trod enc Try.prog W b0 sp hd n 25 (List.take (Try.prog.cellsOf 25) (List.drop 2 [z0, z1, z2, z3, z4, z5, z6])) = some y2 := (hf 2 _ rfl).trans g2
    rw [eC25] at k2
    replace k2 : DataW.trod enc Try.prog W b0 sp hd n 25 [z2] = some y2 := k2
    obtain ⟨m2, B0, d0, q2, o2, u0, f0⟩ := rd_slice (fun a => ((-9223372036854775808) ≤ a ∧ a ≤ 9223372036854775807)) Try.underlying25 eC3 (en := (fun x : Int => [Value.int .i64 x])) (fun _ => rfl) (fun _ _ _ h => rd_i64 Try.underlying3 h) k2
    obtain ⟨y3, g3⟩ := hx 3 (by decide)
    have k3 : DataW.trod enc Try.prog W b0 sp hd n 9 (List.take (Try.prog.cellsOf 9) (List.drop 3 [z0, z1, z2, z3, z4, z5, z6])) = some y3 := (hf 3 _ rfl).trans g3
    rw [eC9] at k3
    replace k3 : DataW.trod enc Try.prog W b0 sp hd n 9 [z3] = some y3 := k3
    obtain ⟨m3, q3, o3⟩ := rd_str Try.underlying9 k3
    obtain ⟨y4, g4⟩ := hx 4 (by decide)
    have k4 : DataW.trod enc Try.prog W b0 sp hd n 28 (List.take (Try.prog.cellsOf 28) (List.drop 4 [z0, z1, z2, z3, z4, z5, z6])) = some y4 := (hf 4 _ rfl).trans g4
    rw [eC28] at k4
    replace k4 : DataW.trod enc Try.prog W b0 sp hd n 28 [z4, z5, z6] = some y4 := k4
    obtain ⟨m4, B1, d1, q4, o4, u1, f1⟩ := rd28 k4
    simp only [List.cons.injEq, and_true] at q0
    subst q0
    simp only [List.cons.injEq, and_true] at q1
    subst q1
    simp only [List.cons.injEq, and_true] at q2
    subst q2
    simp only [List.cons.injEq, and_true] at q3
    subst q3
    simp only [List.cons.injEq, and_true] at q4
    obtain ⟨rfl, rfl, rfl⟩ := q4
    exact ⟨⟨m0, m1, m2, m3, m4⟩, B0, d0, B1, d1, rfl, ⟨o0, o1, o2, o3, o4⟩, u0, f0, u1, f1⟩
theorem eC30 : Try.prog.cellsOf 30 = 7 := by kernel_rfl
theorem GHardD.agree {W W' : World} {z : GHardD} (hW : ∀ k, k < W.heap.size → W'.heap[k]? = W.heap[k]?) (h : z.own W) : z.own W' := ⟨(h.1).agree hW, (h.2).agree hW⟩
end Go.Proofs.Ytildknbbpkbkeab
