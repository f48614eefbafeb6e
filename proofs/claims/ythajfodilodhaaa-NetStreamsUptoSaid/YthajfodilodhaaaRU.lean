/- Readings of a bounded bulk, as models (own work). -/
import Derived.Test.YthajfodilodhaaaRD
import Derived.Test.YthajfodilodhaaaRows
set_option maxRecDepth 100000
set_option linter.unusedVariables false
set_option linter.unusedSimpArgs false
namespace Go.Proofs.Ythajfodilodhaaa
open Go.ChangeShapes Go.WideShapes Go.ChangeAt Go.RowKit
section
variable {H : Type} {enc : TypeId × Value → H} {P : Program} {W : World} {r : Reach} {base b0 : Nat} {sp : Nat → Bool} {hd : Bool} {v : Value} {d : DataW H} {p : List MemPlace} {t e : TypeId} {fuel : Nat} {cs : List Value} {x : DataW H × List MemPlace}
theorem bulk_mem : ∀ {l : List (DataW H)} {d : DataW H}, d ∈ l → Rows.uptoBulk d ≤ Rows.uptoBulkAll l
  | [], d, h => by cases h
  | y :: l, d, h => by
    rw [Rows.uptoBulkAll]
    rcases List.mem_cons.1 h with rfl | h
    · omega
    · have := bulk_mem h; omega
theorem bulk_pos (d : DataW H) : 1 ≤ Rows.uptoBulk d := by
  cases d with
  | lit l => cases l <;> simp only [Rows.uptoBulk] <;> omega
  | _ => simp only [Rows.uptoBulk]; omega
theorem bulk_len : ∀ l : List (DataW H), l.length ≤ Rows.uptoBulkAll l
  | [] => Nat.zero_le _
  | y :: l => by have := bulk_len l; have := bulk_pos y; rw [Rows.uptoBulkAll, List.length_cons]; omega
theorem bulk_agg {xs : List (DataW H × List MemPlace)} {ps : List MemPlace} (he : x = (.agg (xs.map (·.1)), ps)) (hb : Rows.uptoBulk x.1 ≤ 1048576) : ∀ (i : Nat) (y : DataW H × List MemPlace), xs[i]? = some y → Rows.uptoBulk y.1 ≤ 1048576 := by
  subst he
  intro i y hy
  rw [Rows.uptoBulk] at hb
  have := bulk_mem (List.mem_map_of_mem (f := (·.1)) (List.mem_of_getElem? hy))
  omega
theorem rd_strU (hu : P.underlying t = some .string) (h : DataW.trod enc P W b0 sp hd fuel t cs = some x) (hb : Rows.uptoBulk x.1 ≤ 1048576) : ∃ s : ByteArray, cs = [.string s] ∧ s.size ≤ 1048576 := by
  obtain ⟨n, h1, rfl, h2⟩ := DataW.trod_string hu h
  refine ⟨n, h1, ?_⟩
  simp only [Rows.uptoBulk, Array.length_toList] at hb
  exact Nat.le_trans (Nat.le_succ _) hb
theorem rd_sliceU {α : Type} {en : α → List Value} (ok : α → Prop) {sz : Nat} (hu : P.underlying t = some (.slice e)) (hcell : P.cellsOf e = sz) (hsz : ∀ a, (en a).length = sz)
    (hel : ∀ fuel cs x, DataW.trod enc P W b0 sp hd fuel e cs = some x → Rows.uptoBulk x.1 ≤ 1048576 → ∃ m, cs = en m ∧ ok m) (h : DataW.trod enc P W b0 sp hd fuel t cs = some x) (hbk : Rows.uptoBulk x.1 ≤ 1048576) :
    ∃ (l : List α) (A : Option Addr) (c : Nat), cs = [.slice A l.length c] ∧ (l.length ≤ 1048576 ∧ ∀ a ∈ l, ok a) ∧ l.length ≤ c ∧ Cl W A (l.flatMap en) := by
  rcases Go.Deep.open_slice hu h with ⟨h0, _⟩ | ⟨a, len, cap, m, k, D, Pl, hcs, _, hl, hcm, hm, rfl, hx⟩
  · exact ⟨[], none, 0, h0, ⟨Nat.zero_le _, fun a ha => by cases ha⟩, Nat.le_refl _, Cl.nil _ _⟩
  · simp only [Rows.uptoBulk] at hbk
    have hlen : len ≤ 1048576 := by
      have := bulk_len ((List.range len).map D)
      rw [List.length_map, List.length_range] at this
      omega
    have hE : ∀ i, i < len → ∃ b : α, Cl W (some (a.add (i * sz))) (en b) ∧ ok b := fun i hi => by
      obtain ⟨cs', h1, h2⟩ := hx i (by rw [hm]; split <;> omega)
      obtain ⟨b, rfl, hok⟩ := hel _ _ _ h2 (by
        have := bulk_mem (List.mem_map_of_mem (f := D) (List.mem_range.2 hi))
        simp only; omega)
      rw [hcell] at h1
      obtain ⟨_, h3, h4⟩ := World.cells?_some h1
      exact ⟨b, fun j u hj => ⟨_, rfl, by rw [h4 j (by have := (List.getElem?_eq_some_iff.1 hj).1; rw [h3] at this; exact this)]; exact hj⟩, hok⟩
    by_cases h0 : len = 0
    · subst h0
      exact ⟨[], some a, cap, hcs, ⟨Nat.zero_le _, fun a ha => by cases ha⟩, Nat.zero_le _, Cl.nil _ _⟩
    · obtain ⟨b0, _⟩ := hE 0 (by omega)
      let E : Nat → α := fun i => if hi : i < len then Classical.choose (hE i hi) else b0
      have hEs : ∀ i, i < len → Cl W (some (a.add (i * sz))) (en (E i)) ∧ ok (E i) := fun i hi => by
        show Cl W (some (a.add (i * sz))) (en (if hi : i < len then Classical.choose (hE i hi) else b0)) ∧ ok (if hi : i < len then Classical.choose (hE i hi) else b0)
        rw [dif_pos hi]; exact Classical.choose_spec (hE i hi)
      refine ⟨(List.range len).map E, some a, cap, by simpa using hcs, ⟨by simpa using hlen, fun b hb => ?_⟩, by simpa using hl, cl_range hsz E len fun i hi => (hEs i hi).1⟩
      obtain ⟨i, hi, rfl⟩ := List.mem_map.1 hb
      exact (hEs i (List.mem_range.1 hi)).2
end
end Go.Proofs.Ythajfodilodhaaa
