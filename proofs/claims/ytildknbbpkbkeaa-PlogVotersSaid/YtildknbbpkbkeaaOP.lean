/- Readings of arguments: logs, entries, numbers, as lists (own work). -/
import Derived.Test.YtildknbbpkbkeaaT8
import Derived.OpenShut
import Derived.ChangeOld
import Derived.ShutString
import Derived.Deep.Slices
import Derived.Deep.Strs
import Derived.Laws.IdiomArrays
import Derived.Lib.SmallJoins
set_option maxRecDepth 100000
set_option linter.unusedVariables false
set_option linter.unusedSimpArgs false
namespace Go.Proofs.Ytildknbbpkbkeaa
open Go.ChangeShapes Go.WideShapes Go.ChangeAt Go.RowKit
section
variable {H : Type} {enc : TypeId × Value → H} {W : World} {r : Reach} {base b0 : Nat} {sp : Nat → Bool} {hd : Bool} {v : Value} {d : DataW H} {p : List MemPlace}
theorem Cl.append {A : Addr} {xs ys : List Value} (h : Cl W (some A) xs) (h2 : Cl W (some (A.add xs.length)) ys) : Cl W (some A) (xs ++ ys) := fun j u hj => by
  refine ⟨_, rfl, ?_⟩
  rcases Nat.lt_or_ge j xs.length with hl | hl
  · rw [List.getElem?_append_left hl] at hj
    exact h.cells j u hj
  · rw [List.getElem?_append_right hl] at hj
    have := h2.cells _ u hj
    rwa [add_add, show xs.length + (j - xs.length) = j by omega] at this
theorem Cl.same {W' : World} {A : Option Addr} {cs : List Value} (h : Cl W A cs) (hW : ∀ k, k < W.heap.size → ¬ False → W'.heap[k]? = W.heap[k]?) : Cl W' A cs := fun j u hj => by
  obtain ⟨ad, e, hc⟩ := h j u hj
  refine ⟨ad, e, ?_⟩
  have hlt : (ad.add j).block < W.heap.size := by
    by_cases hb : (ad.add j).block < W.heap.size
    · exact hb
    · simp [World.cell?, Array.getElem?_eq_none (Nat.le_of_not_lt hb)] at hc
  rw [World.cell?_of_block (hW _ hlt (fun h => h))]
  exact hc
theorem cl_ents {A : Addr} (E : Nat → Ent) : ∀ n, (∀ i, i < n → Cl W (some (A.add (i * 3))) (E i).enc) → Cl W (some A) (ents ((List.range n).map E))
  | 0, _ => Cl.nil _ _
  | n + 1, h => by
    rw [List.range_succ, List.map_append, ents_append]
    refine (cl_ents E n fun i hi => h i (by omega)).append ?_
    rw [ents_length, List.length_map, List.length_range]
    have := h n (by omega)
    simpa [ents] using this
theorem cl_ints {A : Addr} (V : Nat → Int) (n : Nat) (h : ∀ i, i < n → W.cell? (A.add i) = some (.int .i64 (V i))) : Cl W (some A) (((List.range n).map V).map (Value.int .i64)) := fun j u hj => by
  refine ⟨_, rfl, ?_⟩
  have hj' : j < n := by have := (List.getElem?_eq_some_iff.1 hj).1; simpa using this
  simp [hj'] at hj
  rw [← hj]
  exact h j hj'
theorem ent_of {fuel : Nat} {cs : List Value} {x : DataW H × List MemPlace} (h : DataW.trod enc Try.prog W b0 sp hd fuel 35 cs = some x) : ∃ e : Ent, cs = e.enc := by
  obtain ⟨y0, y1, y2, n, _, hl, h0, h1, h2⟩ := Go.Deep.trod_struct3 Try.underlying35 h
  have hl : cs.length = 3 := hl.trans (by kernel_rfl)
  match cs, hl with
  | [c0, c1, c2], _ =>
    obtain ⟨a, ha, _⟩ := DataW.trod_int Try.underlying3 h0
    obtain ⟨b, hb, _⟩ := DataW.trod_int Try.underlying3 h1
    obtain ⟨s, hs, _⟩ := DataW.trod_string Try.underlying9 h2
    have e3 : Try.prog.cellsOf 3 = 1 := by kernel_rfl
    have e9 : Try.prog.cellsOf 9 = 1 := by kernel_rfl
    simp [e3, e9] at ha hb hs
    exact ⟨⟨a, b, s⟩, by simp [Ent.enc, ha, hb, hs]⟩
theorem open_ents {fuel : Nat} {A : Option Addr} {n c : Nat} {x : DataW H × List MemPlace} (h : DataW.trod enc Try.prog W b0 sp hd fuel 24 [.slice A n c] = some x) : ∃ l : List Ent, l.length = n ∧ n ≤ c ∧ Cl W A (ents l) := by
  rcases Go.Deep.open_slice Try.underlying24 h with ⟨h0, _⟩ | ⟨a, len, cap, m, k, D, Pl, hcs, _, hl, _, hm, _, hx⟩
  · injection h0 with h0 _
    injection h0 with h1 h2 h3
    subst h1 h2 h3
    exact ⟨[], rfl, Nat.le_refl _, Cl.nil _ _⟩
  · injection hcs with h0 _
    injection h0 with h1 h2 h3
    subst h1 h2 h3
    have e35 : Try.prog.cellsOf 35 = 3 := by kernel_rfl
    have hE : ∀ i, i < n → ∃ e : Ent, Cl W (some (a.add (i * 3))) e.enc := fun i hi => by
      obtain ⟨cs', h1, h2⟩ := hx i (by rw [hm]; split <;> omega)
      obtain ⟨e, rfl⟩ := ent_of h2
      rw [e35] at h1
      obtain ⟨_, h3, h4⟩ := World.cells?_some h1
      exact ⟨e, fun j u hj => ⟨_, rfl, by rw [h4 j (by have := (List.getElem?_eq_some_iff.1 hj).1; rw [h3] at this; exact this)]; exact hj⟩⟩
    refine ⟨(List.range n).map (fun i => if hi : i < n then Classical.choose (hE i hi) else Ent.zero), by simp, hl, cl_ents _ n fun i hi => ?_⟩
    rw [dif_pos hi]
    exact Classical.choose_spec (hE i hi)
theorem open_entsV (hv : Value.okWide Try.prog W r base 24 v) (h : DataW.Trod enc Try.prog W b0 sp hd 24 v d p) : ∃ (A : Option Addr) (n c : Nat) (l : List Ent), v = .slice A n c ∧ l.length = n ∧ n ≤ c ∧ Cl W A (ents l) := by
  obtain ⟨A, n, c, rfl⟩ := okWide_slice Try.underlying24 hv
  obtain ⟨fuel, hf⟩ := h
  obtain ⟨l, h1, h2, h3⟩ := open_ents hf
  exact ⟨A, n, c, l, rfl, h1, h2, h3⟩
theorem open_log (hv : Value.okWide Try.prog W r base 26 v) (h : DataW.Trod enc Try.prog W b0 sp hd 26 v d p) : ∃ (b t : Int) (A : Option Addr) (n c : Nat) (l : List Ent), v = .agg #[.int .i64 b, .int .i64 t, .slice A n c] ∧ l.length = n ∧ n ≤ c ∧ Cl W A (ents l) := by
  obtain ⟨v0, v1, v2, y0, y1, y2, n, rfl, _, _, h0, h1, h2⟩ := Go.Joins.open_agg3 Try.underlying26 (by kernel_rfl) (by kernel_rfl) hv h
  obtain ⟨a, ha, _⟩ := DataW.trod_int Try.underlying3 h0
  obtain ⟨b, hb, _⟩ := DataW.trod_int Try.underlying3 h1
  simp only [List.cons.injEq, and_true] at ha hb
  subst ha hb
  have h2' := h2
  rcases Go.Deep.open_slice Try.underlying24 h2 with ⟨hcs, _⟩ | ⟨a', len, cap, m, k, D, Pl, hcs, _⟩
  · simp only [List.cons.injEq, and_true] at hcs
    subst hcs
    obtain ⟨l, e1, e2, e3⟩ := open_ents h2'
    exact ⟨a, b, none, 0, 0, l, rfl, e1, e2, e3⟩
  · simp only [List.cons.injEq, and_true] at hcs
    subst hcs
    obtain ⟨l, e1, e2, e3⟩ := open_ents h2'
    exact ⟨a, b, _, _, _, l, rfl, e1, e2, e3⟩
end
end Go.Proofs.Ytildknbbpkbkeaa
