/- Readings of a law's arguments, by their types (a program's text, own work). -/
import Derived.Test.YtildknbbpkbkeaaRD
import Derived.Test.YtildknbbpkbkeaaU2
set_option maxRecDepth 100000
set_option linter.unusedVariables false
set_option linter.unusedSimpArgs false
namespace Go.Proofs.Ytildknbbpkbkeaa
open Go.ChangeShapes Go.WideShapes Go.ChangeAt Go.RowKit
theorem eC3 : Try.prog.cellsOf 3 = 1 := by kernel_rfl
theorem eC9 : Try.prog.cellsOf 9 = 1 := by kernel_rfl
def GEntry.ok (e : GEntry) : Prop := ((-9223372036854775808) ≤ e.fTerm ∧ e.fTerm ≤ 9223372036854775807) ∧ ((-9223372036854775808) ≤ e.fKind ∧ e.fKind ≤ 9223372036854775807) ∧ e.fData.size ≤ 9223372036854775807
theorem rd35 {H : Type} {enc : TypeId × Value → H} {W : World} {b0 : Nat} {sp : Nat → Bool} {hd : Bool} {fuel : Nat} {cs : List Value} {x : DataW H × List MemPlace} (h : DataW.trod enc Try.prog W b0 sp hd fuel 35 cs = some x) : ∃ (m : GEntry), cs = GEntry.enc m ∧ m.ok := by
  obtain ⟨xs, n, _, _, hl, hlen, hf⟩ := DataW.trod_struct Try.underlying35 h
  have hl : cs.length = 3 := hl.trans (by kernel_rfl)
  have hx : ∀ i, i < 3 → ∃ y, xs[i]? = some y := fun i hi => ⟨_, List.getElem?_eq_getElem (by rw [hlen]; exact hi)⟩
  match cs, hl with
  | [z0, z1, z2], _ =>
    obtain ⟨y0, g0⟩ := hx 0 (by decide)
    have k0 : DataW.trod enc Try.prog W b0 sp hd n 3 (List.take (Try.prog.cellsOf 3) (List.drop 0 [z0, z1, z2])) = some y0 := (hf 0 _ rfl).trans g0
    rw [eC3] at k0
    replace k0 : DataW.trod enc Try.prog W b0 sp hd n 3 [z0] = some y0 := k0
    obtain ⟨m0, q0, o0⟩ := rd_i64 Try.underlying3 k0
    obtain ⟨y1, g1⟩ := hx 1 (by decide)
    have k1 : DataW.trod enc Try.prog W b0 sp hd n 3 (List.take (Try.prog.cellsOf 3) (List.drop 1 [z0, z1, z2])) = some y1 := (hf 1 _ rfl).trans g1
    rw [eC3] at k1
    replace k1 : DataW.trod enc Try.prog W b0 sp hd n 3 [z1] = some y1 := k1
    obtain ⟨m1, q1, o1⟩ := rd_i64 Try.underlying3 k1
    obtain ⟨y2, g2⟩ := hx 2 (by decide)
    have k2 : DataW.trod enc Try.prog W b0 sp hd n 9 (List.take (Try.prog.cellsOf 9) (List.drop 2 [z0, z1, z2])) = some y2 := (hf 2 _ rfl).trans g2
    rw [eC9] at k2
    replace k2 : DataW.trod enc Try.prog W b0 sp hd n 9 [z2] = some y2 := k2
    obtain ⟨m2, q2, o2⟩ := rd_str Try.underlying9 k2
    simp only [List.cons.injEq, and_true] at q0
    subst q0
    simp only [List.cons.injEq, and_true] at q1
    subst q1
    simp only [List.cons.injEq, and_true] at q2
    subst q2
    exact ⟨⟨m0, m1, m2⟩, rfl, ⟨o0, o1, o2⟩⟩
theorem eC35 : Try.prog.cellsOf 35 = 3 := by kernel_rfl
theorem eC24 : Try.prog.cellsOf 24 = 1 := by kernel_rfl
def GLog.ok (e : GLog) : Prop := ((-9223372036854775808) ≤ e.fBase ∧ e.fBase ≤ 9223372036854775807) ∧ ((-9223372036854775808) ≤ e.fBaseTerm ∧ e.fBaseTerm ≤ 9223372036854775807) ∧ (e.fEntries.length ≤ 9223372036854775807 ∧ ∀ a ∈ e.fEntries, GEntry.ok a)
theorem rd26 {H : Type} {enc : TypeId × Value → H} {W : World} {b0 : Nat} {sp : Nat → Bool} {hd : Bool} {fuel : Nat} {cs : List Value} {x : DataW H × List MemPlace} (h : DataW.trod enc Try.prog W b0 sp hd fuel 26 cs = some x) : ∃ (m : GLog) (A0 : Option Addr) (c0 : Nat), cs = [.int .i64 m.fBase, .int .i64 m.fBaseTerm, .slice A0 m.fEntries.length c0] ∧ m.ok ∧ m.fEntries.length ≤ c0 ∧ Cl W A0 (m.fEntries.flatMap GEntry.enc) := by
  obtain ⟨xs, n, _, _, hl, hlen, hf⟩ := DataW.trod_struct Try.underlying26 h
  have hl : cs.length = 3 := hl.trans (by kernel_rfl)
  have hx : ∀ i, i < 3 → ∃ y, xs[i]? = some y := fun i hi => ⟨_, List.getElem?_eq_getElem (by rw [hlen]; exact hi)⟩
  match cs, hl with
  | [z0, z1, z2], _ =>
    obtain ⟨y0, g0⟩ := hx 0 (by decide)
    have k0 : DataW.trod enc Try.prog W b0 sp hd n 3 (List.take (Try.prog.cellsOf 3) (List.drop 0 [z0, z1, z2])) = some y0 := (hf 0 _ rfl).trans g0
    rw [eC3] at k0
    replace k0 : DataW.trod enc Try.prog W b0 sp hd n 3 [z0] = some y0 := k0
    obtain ⟨m0, q0, o0⟩ := rd_i64 Try.underlying3 k0
    obtain ⟨y1, g1⟩ := hx 1 (by decide)
    have k1 : DataW.trod enc Try.prog W b0 sp hd n 3 (List.take (Try.prog.cellsOf 3) (List.drop 1 [z0, z1, z2])) = some y1 := (hf 1 _ rfl).trans g1
    rw [eC3] at k1
    replace k1 : DataW.trod enc Try.prog W b0 sp hd n 3 [z1] = some y1 := k1
    obtain ⟨m1, q1, o1⟩ := rd_i64 Try.underlying3 k1
    obtain ⟨y2, g2⟩ := hx 2 (by decide)
    have k2 : DataW.trod enc Try.prog W b0 sp hd n 24 (List.take (Try.prog.cellsOf 24) (List.drop 2 [z0, z1, z2])) = some y2 := (hf 2 _ rfl).trans g2
    rw [eC24] at k2
    replace k2 : DataW.trod enc Try.prog W b0 sp hd n 24 [z2] = some y2 := k2
    obtain ⟨m2, B0, d0, q2, o2, u0, f0⟩ := rd_slice (fun a => GEntry.ok a) Try.underlying24 eC35 (en := GEntry.enc) (fun _ => rfl) (fun _ _ _ h => by obtain ⟨m, hm, ho⟩ := rd35 h; exact ⟨m, hm, ho⟩) k2
    simp only [List.cons.injEq, and_true] at q0
    subst q0
    simp only [List.cons.injEq, and_true] at q1
    subst q1
    simp only [List.cons.injEq, and_true] at q2
    subst q2
    exact ⟨⟨m0, m1, m2⟩, B0, d0, rfl, ⟨o0, o1, o2⟩, u0, f0⟩
end Go.Proofs.Ytildknbbpkbkeaa
