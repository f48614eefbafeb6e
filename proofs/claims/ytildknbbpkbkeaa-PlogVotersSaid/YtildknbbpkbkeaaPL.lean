/- Plain facts of logs: what a Put leaves (own work). -/
import Derived.Test.YtildknbbpkbkeaaTA
set_option linter.unusedVariables false
set_option linter.unusedSimpArgs false
namespace Go.Proofs.Ytildknbbpkbkeaa
open Go.RowKit
theorem getI_at (b : Int) (l : List Ent) (k : Nat) : getI b l (b + 1 + k) = if k < l.length then (l.getD k Ent.zero, true) else (Ent.zero, false) := by
  unfold getI
  have e : (b + 1 + (k : Int) - b - 1).toNat = k := by omega
  rw [e]
  by_cases h : k < l.length
  · rw [if_pos (by omega), if_pos h]
  · rw [if_neg (by omega), if_neg h]
theorem termI_at (b t : Int) (l : List Ent) (k : Nat) : termI b t l (b + 1 + k) = if k < l.length then ((l.getD k Ent.zero).term, true) else (0, false) := by
  unfold termI
  rw [if_neg (by omega), getI_at]
  by_cases h : k < l.length
  · rw [if_pos h, if_pos h]
  · rw [if_neg h, if_neg h]; rfl
/-- Do a log and entries have the same at place k? -/
def meets (l e : List Ent) (k : Nat) : Prop := k < l.length ∧ (l.getD k Ent.zero).term = (e.getD k Ent.zero).term
theorem putFrom_none {b t : Int} {l : List Ent} : ∀ (r : List Ent) (k : Nat), putFrom b t l b k r = none → ∀ j, j < r.length → k + j < l.length ∧ (l.getD (k + j) Ent.zero).term = (r.getD j Ent.zero).term := by
  intro r
  induction r with
  | nil => intro k _ j hj; exact absurd hj (by simp)
  | cons e r ih =>
    intro k h j hj
    unfold putFrom at h
    split at h
    · cases h
    · rename_i hn
      rw [termI_at] at hn
      cases j with
      | zero =>
        by_cases hk : k < l.length
        · rw [if_pos hk] at hn
          refine ⟨hk, ?_⟩
          simp only [List.getD_cons_zero, Nat.add_zero]
          exact Classical.byContradiction fun hne => hn ⟨by omega, .inr hne⟩
        · rw [if_neg hk] at hn
          exact absurd ⟨by omega, .inl rfl⟩ hn
      | succ j =>
        have := ih (k + 1) h j (by simpa using hj)
        rw [show k + (j + 1) = k + 1 + j by omega]
        simpa using this
theorem putFrom_some {b t : Int} {l : List Ent} : ∀ (r : List Ent) (k m : Nat), putFrom b t l b k r = some m → ∃ j, j < r.length ∧ m = k + j ∧ (∀ i, i < j → k + i < l.length ∧ (l.getD (k + i) Ent.zero).term = (r.getD i Ent.zero).term) ∧ ¬ (k + j < l.length ∧ (l.getD (k + j) Ent.zero).term = (r.getD j Ent.zero).term) := by
  intro r
  induction r with
  | nil => intro k m h; cases h
  | cons e r ih =>
    intro k m h
    unfold putFrom at h
    split at h
    · rename_i hy
      injection h with h
      subst h
      refine ⟨0, by simp, rfl, fun i hi => absurd hi (by omega), ?_⟩
      rintro ⟨h1, h2⟩
      simp only [Nat.add_zero, List.getD_cons_zero] at h1 h2
      rw [termI_at, if_pos h1] at hy
      rcases hy.2 with h3 | h3
      · cases h3
      · exact h3 h2
    · rename_i hn
      rw [termI_at] at hn
      obtain ⟨j, h1, h2, h3, h4⟩ := ih (k + 1) m h
      refine ⟨j + 1, by simpa using h1, by omega, ?_, ?_⟩
      · intro i hi
        cases i with
        | zero =>
          by_cases hk : k < l.length
          · rw [if_pos hk] at hn
            refine ⟨hk, ?_⟩
            simp only [List.getD_cons_zero, Nat.add_zero]
            exact Classical.byContradiction fun hne => hn ⟨by omega, .inr hne⟩
          · rw [if_neg hk] at hn
            exact absurd ⟨by omega, .inl rfl⟩ hn
        | succ i =>
          have := h3 i (by omega)
          rw [show k + (i + 1) = k + 1 + i by omega]
          simpa using this
      · rw [show k + (j + 1) = k + 1 + j by omega]
        simpa using h4
theorem putI_eq (b t : Int) (l e : List Ent) (hb : 0 ≤ b) : putI b t l b e = match putFrom b t l b 0 e with
    | some k => (l.take k ++ e.drop k, b + 1 + k)
    | none => (l, 0) := by
  unfold putI putAt
  rw [if_neg (by omega), List.drop_zero]
  cases putFrom b t l b 0 e with
  | none => rfl
  | some k =>
    have : (b + (k : Int) - b).toNat = k := by omega
    simp only [this]
theorem put_get {b t : Int} {l e : List Ent} (hb : 0 ≤ b) (k : Nat) (hk : k < e.length) : (getI b (putI b t l b e).1 (b + 1 + k)).2 = true ∧ (getI b (putI b t l b e).1 (b + 1 + k)).1.term = (e.getD k Ent.zero).term := by
  rw [getI_at, putI_eq b t l e hb]
  cases h : putFrom b t l b 0 e with
  | none =>
    have := putFrom_none e 0 h k hk
    rw [Nat.zero_add] at this
    simp only
    rw [if_pos this.1]
    exact ⟨rfl, this.2⟩
  | some m =>
    obtain ⟨j, h1, h2, h3, _⟩ := putFrom_some e 0 m h
    simp only [Nat.zero_add] at h2 h3
    subst h2
    have hml : m ≤ l.length := by
      rcases Nat.eq_zero_or_pos m with h0 | h0
      · omega
      · have := (h3 (m - 1) (by omega)).1; omega
    simp only
    rw [if_pos (by simp only [List.length_append, List.length_take, List.length_drop]; omega)]
    refine ⟨rfl, ?_⟩
    simp only [List.getD_eq_getElem?_getD]
    by_cases hkm : k < m
    · have := (h3 k hkm).2
      simp only [List.getD_eq_getElem?_getD] at this
      rw [List.getElem?_append_left (by simp only [List.length_take]; omega), List.getElem?_take, if_pos hkm]
      exact this
    · rw [List.getElem?_append_right (by simp only [List.length_take]; omega), List.getElem?_drop, List.length_take, show m + (k - min m l.length) = k by omega]
theorem put_zero {b t : Int} {l e : List Ent} (hb : 0 ≤ b) : (decide ((putI b t l b e).2 = 0) == sameTermsI l e) = true := by
  rw [putI_eq b t l e hb, beq_iff_eq]
  cases h : putFrom b t l b 0 e with
  | none =>
    have hn := putFrom_none e 0 h
    simp only [Nat.zero_add] at hn
    have : sameTermsI l e = true := by
      refine decide_eq_true ⟨?_, fun j hj => (hn j hj).2.symm⟩
      rcases Nat.eq_zero_or_pos e.length with h0 | h0
      · omega
      · have := (hn (e.length - 1) (by omega)).1; omega
    rw [this]
    rfl
  | some m =>
    obtain ⟨j, h1, h2, h3, h4⟩ := putFrom_some e 0 m h
    simp only [Nat.zero_add] at h2 h3 h4
    subst h2
    have : sameTermsI l e = false := decide_eq_false fun hs => h4 ⟨by omega, (hs.2 m h1).symm⟩
    rw [this]
    exact decide_eq_false (by simp only; omega)
theorem check_zero {b t : Int} {l : List Ent} (h : checkI b t l = 0) : logOk b t l := by
  unfold checkI at h
  split at h
  · assumption
  · cases h
theorem few_data (l : List Ent) (j : Nat) : ((fewI l).getD j Ent.zero).data.size ≤ 60 := by
  rw [List.getD_eq_getElem?_getD]
  cases h : (fewI l)[j]? with
  | none => decide
  | some e =>
    have : e ∈ fewI l := List.mem_of_getElem? h
    simp only [fewI, List.mem_map] at this
    obtain ⟨a, _, rfl⟩ := this
    simp only [Option.getD_some, cutE]
    split
    · simp only [ByteArray.size_extract]; omega
    · omega
end Go.Proofs.Ytildknbbpkbkeaa
