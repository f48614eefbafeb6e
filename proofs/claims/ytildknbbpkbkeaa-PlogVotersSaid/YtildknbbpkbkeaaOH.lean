/- Readings of arguments: numbers, and all that a node keeps (own work). -/
import Derived.Test.YtildknbbpkbkeaaOP
set_option maxRecDepth 100000
set_option linter.unusedVariables false
set_option linter.unusedSimpArgs false
namespace Go.Proofs.Ytildknbbpkbkeaa
open Go.ChangeShapes Go.WideShapes Go.ChangeAt Go.RowKit
section
variable {H : Type} {enc : TypeId × Value → H} {W : World} {r : Reach} {base b0 : Nat} {sp : Nat → Bool} {hd : Bool} {v : Value} {d : DataW H} {p : List MemPlace}
theorem open_intsL {fuel : Nat} {A : Option Addr} {n c : Nat} {x : DataW H × List MemPlace} (h : DataW.trod enc Try.prog W b0 sp hd fuel 42 [.slice A n c] = some x) : ∃ l : List Int, l.length = n ∧ n ≤ c ∧ Cl W A (l.map (Value.int .i64)) := by
  rcases Go.Deep.open_slice1 Try.underlying42 (by kernel_rfl) h with ⟨h0, _⟩ | ⟨a, len, cap, m, k, V, D, Pl, hcs, _, hl, _, hm, _, hx⟩
  · injection h0 with h0 _
    injection h0 with h1 h2 h3
    subst h1 h2 h3
    exact ⟨[], rfl, Nat.le_refl _, Cl.nil _ _⟩
  · injection hcs with h0 _
    injection h0 with h1 h2 h3
    subst h1 h2 h3
    have hE : ∀ i, i < n → ∃ z : Int, W.cell? (a.add i) = some (.int .i64 z) := fun i hi => by
      obtain ⟨h1, h2⟩ := hx i (by rw [hm]; split <;> omega)
      obtain ⟨z, hz, _⟩ := DataW.trod_int Try.underlying3 h2
      injection hz with hz
      exact ⟨z, by rw [h1, hz]⟩
    refine ⟨(List.range n).map (fun i => if hi : i < n then Classical.choose (hE i hi) else 0), by simp, hl, cl_ints _ n fun i hi => ?_⟩
    rw [dif_pos hi]
    exact Classical.choose_spec (hE i hi)
theorem open_intsV (hv : Value.okWide Try.prog W r base 42 v) (h : DataW.Trod enc Try.prog W b0 sp hd 42 v d p) : ∃ (A : Option Addr) (n c : Nat) (l : List Int), v = .slice A n c ∧ l.length = n ∧ n ≤ c ∧ Cl W A (l.map (Value.int .i64)) := by
  obtain ⟨A, n, c, rfl⟩ := okWide_slice Try.underlying42 hv
  obtain ⟨fuel, hf⟩ := h
  obtain ⟨l, h1, h2, h3⟩ := open_intsL hf
  exact ⟨A, n, c, l, rfl, h1, h2, h3⟩
theorem log_cells {fuel : Nat} {c0 c1 c2 : Value} {x : DataW H × List MemPlace} (h : DataW.trod enc Try.prog W b0 sp hd fuel 26 [c0, c1, c2] = some x) : ∃ (b t : Int) (A : Option Addr) (n c : Nat) (l : List Ent), c0 = .int .i64 b ∧ c1 = .int .i64 t ∧ c2 = .slice A n c ∧ l.length = n ∧ n ≤ c ∧ Cl W A (ents l) := by
  obtain ⟨y0, y1, y2, n, _, _, h0, h1, h2⟩ := Go.Deep.trod_struct3 Try.underlying26 h
  obtain ⟨a, ha, _⟩ := DataW.trod_int Try.underlying3 h0
  obtain ⟨b, hb, _⟩ := DataW.trod_int Try.underlying3 h1
  have e3 : Try.prog.cellsOf 3 = 1 := by kernel_rfl
  have e24 : Try.prog.cellsOf 24 = 1 := by kernel_rfl
  simp [e3] at ha hb
  have h2' : DataW.trod enc Try.prog W b0 sp hd n 24 [c2] = some y2 := by simpa [e24] using h2
  rcases Go.Deep.open_slice Try.underlying24 h2' with ⟨hcs, _⟩ | ⟨a', len, cap, m, k, D, Pl, hcs, _⟩
  · simp only [List.cons.injEq, and_true] at hcs
    subst hcs
    obtain ⟨l, e1, e2, e3⟩ := open_ents h2'
    exact ⟨a, b, none, 0, 0, l, ha, hb, rfl, e1, e2, e3⟩
  · simp only [List.cons.injEq, and_true] at hcs
    subst hcs
    obtain ⟨l, e1, e2, e3⟩ := open_ents h2'
    exact ⟨a, b, _, _, _, l, ha, hb, rfl, e1, e2, e3⟩
theorem ints_cell {fuel : Nat} {c0 : Value} {x : DataW H × List MemPlace} (h : DataW.trod enc Try.prog W b0 sp hd fuel 42 [c0] = some x) : ∃ (A : Option Addr) (n c : Nat) (l : List Int), c0 = .slice A n c ∧ l.length = n ∧ n ≤ c ∧ Cl W A (l.map (Value.int .i64)) := by
  rcases Go.Deep.open_slice Try.underlying42 h with ⟨hcs, _⟩ | ⟨a', len, cap, m, k, D, Pl, hcs, _⟩
  · simp only [List.cons.injEq, and_true] at hcs
    subst hcs
    obtain ⟨l, e1, e2, e3⟩ := open_intsL h
    exact ⟨none, 0, 0, l, rfl, e1, e2, e3⟩
  · simp only [List.cons.injEq, and_true] at hcs
    subst hcs
    obtain ⟨l, e1, e2, e3⟩ := open_intsL h
    exact ⟨_, _, _, l, rfl, e1, e2, e3⟩
theorem hard_cells {fuel : Nat} {cs : List Value} {x : DataW H × List MemPlace} (h : DataW.trod enc Try.prog W b0 sp hd fuel 44 cs = some x) : ∃ (tm vo : Int) (V : Option Addr) (nv cv : Nat) (vs : List Int) (sn : ByteArray) (b t : Int) (A : Option Addr) (n c : Nat) (l : List Ent),
    cs = [.int .i64 tm, .int .i64 vo, .slice V nv cv, .string sn, .int .i64 b, .int .i64 t, .slice A n c] ∧ vs.length = nv ∧ nv ≤ cv ∧ Cl W V (vs.map (Value.int .i64)) ∧ l.length = n ∧ n ≤ c ∧ Cl W A (ents l) := by
  obtain ⟨xs, n, _, _, hl, hlen, hf⟩ := DataW.trod_struct Try.underlying44 h
  have hl : cs.length = 7 := hl.trans (by kernel_rfl)
  have hx : ∀ i, i < 5 → ∃ y, xs[i]? = some y := fun i hi => ⟨_, List.getElem?_eq_getElem (by rw [hlen]; exact hi)⟩
  have e3 : Try.prog.cellsOf 3 = 1 := by kernel_rfl
  have e9 : Try.prog.cellsOf 9 = 1 := by kernel_rfl
  have e42 : Try.prog.cellsOf 42 = 1 := by kernel_rfl
  have e26 : Try.prog.cellsOf 26 = 3 := by kernel_rfl
  match cs, hl with
  | [c0, c1, c2, c3, c4, c5, c6], _ =>
    obtain ⟨y0, g0⟩ := hx 0 (by decide)
    obtain ⟨y1, g1⟩ := hx 1 (by decide)
    obtain ⟨y2, g2⟩ := hx 2 (by decide)
    obtain ⟨y3, g3⟩ := hx 3 (by decide)
    obtain ⟨y4, g4⟩ := hx 4 (by decide)
    obtain ⟨tm, ht, _⟩ := DataW.trod_int Try.underlying3 ((hf 0 _ rfl).trans g0)
    obtain ⟨vo, hv, _⟩ := DataW.trod_int Try.underlying3 ((hf 1 _ rfl).trans g1)
    have k2 := (hf 2 _ rfl).trans g2
    obtain ⟨sn, hs, _⟩ := DataW.trod_string Try.underlying9 ((hf 3 _ rfl).trans g3)
    have k4 := (hf 4 _ rfl).trans g4
    simp [e3, e9] at ht hv hs
    obtain ⟨V, nv, cv, vs, q1, q2, q3, q4⟩ := ints_cell (c0 := c2) (by simpa [e42] using k2)
    obtain ⟨b, t, A, n', c, l, r1, r2, r3, r4, r5, r6⟩ := log_cells (c0 := c4) (c1 := c5) (c2 := c6) (by simpa [e26] using k4)
    exact ⟨tm, vo, V, nv, cv, vs, sn, b, t, A, n', c, l, by rw [ht, hv, q1, hs, r1, r2, r3], q2, q3, q4, r4, r5, r6⟩
theorem open_hard (hv : Value.okWide Try.prog W r base 44 v) (h : DataW.Trod enc Try.prog W b0 sp hd 44 v d p) : ∃ (tm vo : Int) (V : Option Addr) (nv cv : Nat) (vs : List Int) (sn : ByteArray) (b t : Int) (A : Option Addr) (n c : Nat) (l : List Ent),
    v = .agg #[.int .i64 tm, .int .i64 vo, .slice V nv cv, .string sn, .int .i64 b, .int .i64 t, .slice A n c] ∧ vs.length = nv ∧ nv ≤ cv ∧ Cl W V (vs.map (Value.int .i64)) ∧ l.length = n ∧ n ≤ c ∧ Cl W A (ents l) := by
  obtain ⟨⟨cs⟩, rfl, _⟩ := okWide_struct Try.underlying44 hv
  obtain ⟨fuel, hf⟩ := h
  obtain ⟨tm, vo, V, nv, cv, vs, sn, b, t, A, n, c, l, hc, rest⟩ := hard_cells hf
  have hc : cs = _ := hc
  exact ⟨tm, vo, V, nv, cv, vs, sn, b, t, A, n, c, l, by rw [hc], rest⟩
end
end Go.Proofs.Ytildknbbpkbkeaa
