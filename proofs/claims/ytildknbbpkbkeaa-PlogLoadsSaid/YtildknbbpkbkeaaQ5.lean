import Derived.Test.YtildknbbpkbkeaaV5C
set_option linter.unusedVariables false
set_option linter.unusedSimpArgs false
set_option maxRecDepth 16384
namespace Go.Proofs.Ytildknbbpkbkeaa
open Go.RowKit

/-- May a number stand at k in a list of voters? -/
def good (l : List Int) (k : Nat) : Prop := 0 ≤ l.getD k 0 ∧ l.getD k 0 < 64 ∧ (0 < k → l.getD (k - 1) 0 < l.getD k 0)
instance (l : List Int) (k : Nat) : Decidable (good l k) := by unfold good; infer_instance
def risingP (l : List Int) : Bool := decide (0 < l.length ∧ ∀ k, k < l.length → good l k)
theorem at_getD {l : List Int} {k : Nat} (h : k < l.length) : at_ l (k : Int) = some (l.getD k 0) := by
  rw [at_nat h, List.getD_eq_getElem?_getD, List.getElem?_eq_getElem h]; rfl
theorem rising_step (l : List Int) (k : Nat) (hl : l.length ≤ 9223372036854775807) : m_plog_rising_s2 l (k : Int) = if k < l.length then (if good l k then some (.inl ((k + 1 : Nat) : Int)) else some (.inr (.inr false))) else some (.inr (.inl ())) := by
  unfold m_plog_rising_s2
  by_cases hk : k < l.length
  · rw [if_pos (by omega), if_pos hk, at_getD hk]
    simp only [Option.bind_some]
    rw [w64_id (x := (k : Int) + 1) (by omega) (by omega)]
    by_cases h1 : l.getD k 0 < 0
    · rw [if_pos h1, if_neg (fun h => by have := h.1; omega)]
    · rw [if_neg h1]
      by_cases h2 : 64 ≤ l.getD k 0
      · rw [if_pos h2, if_neg (fun h => by have := h.2.1; omega)]
      · rw [if_neg h2]
        by_cases h3 : (0 : Int) < k
        · rw [if_pos h3, w64_id (x := (k : Int) - 1) (by omega) (by omega), show (k : Int) - 1 = ((k - 1 : Nat) : Int) by omega, at_getD (by omega)]
          simp only [Option.bind_some]
          by_cases h4 : l.getD k 0 ≤ l.getD (k - 1) 0
          · rw [if_pos h4, if_neg (fun h => by have := h.2.2 (by omega); omega)]
          · rw [if_neg h4, if_pos ⟨by omega, by omega, fun _ => by omega⟩]; rfl
        · rw [if_neg h3, if_pos ⟨by omega, by omega, fun _ => by omega⟩]; rfl
  · rw [if_neg (by omega), if_neg hk]
theorem m_rising (l : List Int) (hl : l.length ≤ 9223372036854775807) : m_plog_rising l = some (risingP l) := by
  unfold m_plog_rising
  by_cases hg : ∀ k, k < l.length → good l k
  · have hL : loop (fun s => m_plog_rising_s2 l s) 0 = some (.inl ()) := loop_run l.length (fun k => (k : Int)) _ rfl (fun k hk => by rw [rising_step l k hl, if_pos hk, if_pos (hg k hk)]) (by rw [rising_step l _ hl, if_neg (by omega)])
    rw [hL]
    simp only [Option.bind_some, Sum.elim_inl, m_plog_rising_j1, risingP, Option.some.injEq, decide_eq_decide]
    constructor
    · intro h; exact ⟨by omega, hg⟩
    · intro h; omega
  · obtain ⟨n, hn, hng, hgo⟩ := first_not hg
    have hL : loop (fun s => m_plog_rising_s2 l s) 0 = some (.inr false) := loop_run n (fun k => (k : Int)) _ rfl (fun k hk => by rw [rising_step l k hl, if_pos (by omega), if_pos (hgo k hk)]) (by rw [rising_step l _ hl, if_pos hn, if_neg hng])
    rw [hL]
    simp only [Option.bind_some, Sum.elim_inr, risingP, Option.some.injEq]
    exact (decide_eq_false (fun h => hng (h.2 n hn))).symm
def listP (s : ByteArray) : List Int × Bool := if risingP (bytesI s) then (bytesI s, true) else ([], false)
theorem m_List (s : ByteArray) (hs : s.size ≤ 17592186044416) : m_plog_List s = some (listP s) := by
  unfold m_plog_List
  have hstep : ∀ k, k < s.size → m_plog_List_s2 s ((bytesI s).take k) (k : Int) = some (.inl ((bytesI s).take (k + 1), ((k + 1 : Nat) : Int))) := by
    intro k hk
    unfold m_plog_List_s2
    rw [if_pos (by omega), sat_of (by omega) (by omega)]
    simp only [Option.bind_some]
    have hb := byteAt_lt s k
    rw [w64_id (x := byteAt s k) (by omega) (by omega), app_of (by simp [bytesI_length]; omega)]
    simp only [Option.bind_some]
    rw [w64_id (x := (k : Int) + 1) (by omega) (by omega), List.take_succ_eq_append_getElem (by rw [bytesI_length]; exact hk), bytesI_get s k hk]
    rfl
  have hL : loop (fun x => m_plog_List_s2 s x.1 x.2) (([] : List Int), 0) = some (bytesI s) := loop_run s.size (fun k => ((bytesI s).take k, (k : Int))) _ rfl (fun k hk => hstep k hk) (by
    show m_plog_List_s2 s ((bytesI s).take s.size) (s.size : Int) = _
    unfold m_plog_List_s2
    rw [if_neg (by omega), List.take_of_length_le (by rw [bytesI_length]; exact Nat.le_refl _)])
  rw [hL]
  simp only [Option.bind_some, m_plog_List_j1]
  rw [m_rising _ (by rw [bytesI_length]; omega)]
  simp only [Option.bind_some, listP]
  cases risingP (bytesI s) <;> simp
theorem m_rList (s : ByteArray) (hs : s.size ≤ 17592186044416) : m_ref11_List s = some (listP s) := by
  unfold m_ref11_List
  have hat : ∀ k, k < s.size → byteAt s k = (bytesI s).getD k 0 := fun k hk => by
    rw [List.getD_eq_getElem?_getD, List.getElem?_eq_getElem (by rw [bytesI_length]; exact hk), Option.getD_some, bytesI_get s k hk]
  have hstep : ∀ k, k < s.size → m_ref11_List_s2 s ((bytesI s).take k) (k : Int) = if good (bytesI s) k then some (.inl ((bytesI s).take (k + 1), ((k + 1 : Nat) : Int))) else some (.inr (.inr ([], false))) := by
    intro k hk
    unfold m_ref11_List_s2
    simp only [m_ref11_List_j3]
    have hb := byteAt_lt s k
    have e1 := hat k hk
    have ht : (bytesI s).take (k + 1) = (bytesI s).take k ++ [byteAt s k] := by rw [List.take_succ_eq_append_getElem (by rw [bytesI_length]; exact hk), bytesI_get s k hk]
    have happ : app 8 ((bytesI s).take k) [w64 (byteAt s k)] = some ((bytesI s).take (k + 1)) := by
      rw [w64_id (x := byteAt s k) (by omega) (by omega), app_of (by simp [bytesI_length]; omega), ht]
    rw [if_pos (by omega), sat_of (by omega) (by omega)]
    simp only [Option.bind_some]
    rw [w64_id (x := (k : Int) + 1) (by omega) (by omega)]
    by_cases h2 : 63 < byteAt s k
    · rw [if_pos h2, if_neg (fun h => by have := h.2.1; omega)]
    · rw [if_neg h2]
      by_cases h3 : (0 : Int) < k
      · rw [if_pos h3, w64_id (x := (k : Int) - 1) (by omega) (by omega), show (k : Int) - 1 = ((k - 1 : Nat) : Int) by omega, sat_of (i := ((k - 1 : Nat) : Int)) (by omega) (by omega)]
        simp only [Option.bind_some]
        have e2 := hat (k - 1) (by omega)
        by_cases h4 : byteAt s k ≤ byteAt s ((k - 1 : Nat) : Int)
        · rw [if_pos h4, if_neg (fun h => by have := h.2.2 (by omega); omega)]
        · rw [if_neg h4, happ, if_pos ⟨by omega, by omega, fun _ => by omega⟩]; rfl
      · rw [if_neg h3, happ, if_pos ⟨by omega, by omega, fun _ => by omega⟩]; rfl
  have hend : m_ref11_List_s2 s ((bytesI s).take s.size) (s.size : Int) = some (.inr (.inl (bytesI s))) := by
    unfold m_ref11_List_s2
    rw [if_neg (by omega), List.take_of_length_le (by rw [bytesI_length]; exact Nat.le_refl _)]
  by_cases hg : ∀ k, k < s.size → good (bytesI s) k
  · have hL : loop (fun x => m_ref11_List_s2 s x.1 x.2) (([] : List Int), 0) = some (.inl (bytesI s)) := loop_run s.size (fun k => ((bytesI s).take k, (k : Int))) _ rfl (fun k hk => by show m_ref11_List_s2 s _ _ = _; rw [hstep k hk, if_pos (hg k hk)]) hend
    rw [hL]
    simp only [Option.bind_some, Sum.elim_inl, m_ref11_List_j1, listP]
    by_cases h0 : 0 < s.size
    · rw [if_pos (show risingP (bytesI s) = true from decide_eq_true ⟨by rw [bytesI_length]; exact h0, fun k hk => hg k (by rw [bytesI_length] at hk; exact hk)⟩), decide_eq_true (by omega)]
    · rw [if_neg (by simp only [risingP, decide_eq_true_eq, bytesI_length]; omega), decide_eq_false (by omega)]
      rw [show bytesI s = [] from List.eq_nil_of_length_eq_zero (by rw [bytesI_length]; omega)]
  · obtain ⟨n, hn, hng, hgo⟩ := first_not hg
    have hL : loop (fun x => m_ref11_List_s2 s x.1 x.2) (([] : List Int), 0) = some (.inr ([], false)) := loop_run n (fun k => ((bytesI s).take k, (k : Int))) _ rfl (fun k hk => by show m_ref11_List_s2 s _ _ = _; rw [hstep k (by omega), if_pos (hgo k hk)]) (by show m_ref11_List_s2 s _ _ = _; rw [hstep n hn, if_neg hng])
    rw [hL]
    simp only [Option.bind_some, Sum.elim_inr, listP]
    rw [if_neg (by simp only [risingP, decide_eq_true_eq]; intro h; exact hng (h.2 n (by rw [bytesI_length]; exact hn)))]

/-! ### Logs -/
theorem m_within (n : Int) : m_plog_within n = some (decide (0 ≤ n ∧ n ≤ 1099511627776)) := by
  unfold m_plog_within
  by_cases h : 0 ≤ n
  · rw [if_pos h]; simp [h]
  · rw [if_neg h]; simp [h]
/-- May an entry stand behind one of term t? -/
def entG (t : Int) (e : GEntry) : Prop := t ≤ e.fTerm ∧ (0 ≤ e.fTerm ∧ e.fTerm ≤ 1099511627776) ∧ 0 ≤ e.fKind ∧ e.fKind ≤ 2 ∧ e.fData.size ≤ 8000 ∧ (e.fKind = 1 → risingP (bytesI e.fData) = true)
instance (t : Int) (e : GEntry) : Decidable (entG t e) := by unfold entG; infer_instance
def zeroE : GEntry := ⟨0, 0, ⟨#[]⟩⟩
/-- The term ahead of the k-th entry. -/
def before (t : Int) (l : List GEntry) (k : Nat) : Int := if k = 0 then t else (l.getD (k - 1) zeroE).fTerm
theorem before_succ (t : Int) (l : List GEntry) (k : Nat) : before t l (k + 1) = (l.getD k zeroE).fTerm := by simp [before]
theorem at_getE {l : List GEntry} {k : Nat} (h : k < l.length) : at_ l (k : Int) = some (l.getD k zeroE) := by
  rw [at_nat h, List.getD_eq_getElem?_getD, List.getElem?_eq_getElem h]; rfl
def checkP (l : GLog) : Int := if (0 ≤ l.fBase ∧ l.fBase ≤ 1099511627776) ∧ (0 ≤ l.fBaseTerm ∧ l.fBaseTerm ≤ 1099511627776) ∧ l.fEntries.length ≤ 100000 ∧ ∀ k, k < l.fEntries.length → entG (before l.fBaseTerm l.fEntries k) (l.fEntries.getD k zeroE) then 0 else 1
/-- Texts that may be read whole. -/
def modest (l : List GEntry) : Prop := ∀ e ∈ l, e.fData.size ≤ 17592186044416
theorem modest_at {l : List GEntry} (h : modest l) (k : Nat) (hk : k < l.length) : (l.getD k zeroE).fData.size ≤ 17592186044416 := by
  rw [List.getD_eq_getElem?_getD, List.getElem?_eq_getElem hk]; exact h _ (List.getElem_mem hk)
theorem listP_snd (s : ByteArray) : (listP s).2 = risingP (bytesI s) := by unfold listP; split <;> simp_all
theorem check_step (l : GLog) (k : Nat) (hm : modest l.fEntries) (hl : l.fEntries.length ≤ 100000) : m_plog_Check_s2 l (before l.fBaseTerm l.fEntries k) (k : Int) = if k < l.fEntries.length then (if entG (before l.fBaseTerm l.fEntries k) (l.fEntries.getD k zeroE) then some (.inl (before l.fBaseTerm l.fEntries (k + 1), ((k + 1 : Nat) : Int))) else some (.inr (.inr 1))) else some (.inr (.inl ())) := by
  unfold m_plog_Check_s2
  by_cases hk : k < l.fEntries.length
  · rw [if_pos (by omega), if_pos hk, at_getE hk]
    have hmk := modest_at hm k hk
    rw [before_succ]
    generalize l.fEntries.getD k zeroE = e at *
    simp only [Option.bind_some, m_within, m_List _ hmk]
    rw [w64_id (x := (k : Int) + 1) (by omega) (by omega)]
    have hs := listP_snd e.fData
    generalize listP e.fData = z at *
    generalize before l.fBaseTerm l.fEntries k = t at *
    have hd : (0 : Int) ≤ (e.fData.size : Int) := Int.natCast_nonneg _
    by_cases c1 : e.fTerm < t
    · rw [if_pos c1, if_neg (fun h : entG t e => by have := h.1; omega)]
    · rw [if_neg c1]
      by_cases c2 : 0 ≤ e.fTerm ∧ e.fTerm ≤ 1099511627776
      · rw [if_pos (by simpa using c2)]
        by_cases c3 : e.fKind < 0
        · rw [if_pos c3, if_neg (fun h : entG t e => by have := h.2.2.1; omega)]
        · rw [if_neg c3]
          by_cases c4 : 2 < e.fKind
          · rw [if_pos c4, if_neg (fun h : entG t e => by have := h.2.2.2.1; omega)]
          · rw [if_neg c4]
            by_cases c5 : 8000 < (e.fData.size : Int)
            · rw [if_pos c5, if_neg (fun h : entG t e => by have := h.2.2.2.2.1; omega)]
            · rw [if_neg c5]
              by_cases c6 : e.fKind = 1
              · rw [if_pos c6]
                by_cases c7 : z.2 = true
                · rw [if_pos c7, if_pos (show entG t e from ⟨by omega, c2, by omega, by omega, by omega, fun _ => by rw [← hs, c7]⟩)]; rfl
                · rw [if_neg c7, if_neg (fun h : entG t e => c7 (by rw [hs]; exact h.2.2.2.2.2 c6))]
              · rw [if_neg c6, if_pos (show entG t e from ⟨by omega, c2, by omega, by omega, by omega, fun h => absurd h c6⟩)]; rfl
      · rw [if_neg (by simpa using c2), if_neg (fun h : entG t e => c2 h.2.1)]
  · rw [if_neg (by omega), if_neg hk]

theorem rcheck_step (l : GLog) (k : Nat) (hm : modest l.fEntries) (hl : l.fEntries.length ≤ 100000) (h0 : 0 ≤ before l.fBaseTerm l.fEntries k) : m_ref11_Check_s2 l (before l.fBaseTerm l.fEntries k) (k : Int) = if k < l.fEntries.length then (if entG (before l.fBaseTerm l.fEntries k) (l.fEntries.getD k zeroE) then some (.inl (before l.fBaseTerm l.fEntries (k + 1), ((k + 1 : Nat) : Int))) else some (.inr (.inr 1))) else some (.inr (.inl ())) := by
  unfold m_ref11_Check_s2
  by_cases hk : k < l.fEntries.length
  · rw [if_pos (by omega), if_pos hk, at_getE hk]
    have hmk := modest_at hm k hk
    rw [before_succ]
    generalize l.fEntries.getD k zeroE = e at *
    simp only [Option.bind_some, m_rList _ hmk]
    rw [w64_id (x := (k : Int) + 1) (by omega) (by omega)]
    have hs := listP_snd e.fData
    generalize listP e.fData = z at *
    generalize before l.fBaseTerm l.fEntries k = t at *
    have hd : (0 : Int) ≤ (e.fData.size : Int) := Int.natCast_nonneg _
    by_cases c1 : e.fTerm < t
    · rw [if_pos c1, if_neg (fun h : entG t e => by have := h.1; omega)]
    · rw [if_neg c1]
      by_cases c2 : 1099511627776 < e.fTerm
      · rw [if_pos c2, if_neg (fun h : entG t e => by have := h.2.1; omega)]
      · rw [if_neg c2]
        by_cases c3 : e.fKind < 0
        · rw [if_pos c3, if_neg (fun h : entG t e => by have := h.2.2.1; omega)]
        · rw [if_neg c3]
          by_cases c4 : 2 < e.fKind
          · rw [if_pos c4, if_neg (fun h : entG t e => by have := h.2.2.2.1; omega)]
          · rw [if_neg c4]
            by_cases c5 : 8000 < (e.fData.size : Int)
            · rw [if_pos c5, if_neg (fun h : entG t e => by have := h.2.2.2.2.1; omega)]
            · rw [if_neg c5]
              by_cases c6 : e.fKind = 1
              · rw [if_pos c6]
                by_cases c7 : z.2 = true
                · rw [if_pos c7, if_pos (show entG t e from ⟨by omega, by omega, by omega, by omega, by omega, fun _ => by rw [← hs, c7]⟩)]; rfl
                · rw [if_neg c7, if_neg (fun h : entG t e => c7 (by rw [hs]; exact h.2.2.2.2.2 c6))]
              · rw [if_neg c6, if_pos (show entG t e from ⟨by omega, by omega, by omega, by omega, by omega, fun h => absurd h c6⟩)]; rfl
  · rw [if_neg (by omega), if_neg hk]
theorem before_pos {t : Int} {l : List GEntry} {k : Nat} (h0 : 0 ≤ t) (hg : ∀ j, j < k → entG (before t l j) (l.getD j zeroE)) : 0 ≤ before t l k := by
  cases k with
  | zero => simpa [before] using h0
  | succ k => rw [before_succ]; exact (hg k (by omega)).2.1.1
theorem m_Check (l : GLog) (hm : modest l.fEntries) : m_plog_Check l = some (checkP l) := by
  unfold m_plog_Check checkP
  simp only [m_within, Option.bind_some]
  by_cases c1 : 0 ≤ l.fBase ∧ l.fBase ≤ 1099511627776
  · rw [if_pos (by simpa using c1)]
    by_cases c2 : 0 ≤ l.fBaseTerm ∧ l.fBaseTerm ≤ 1099511627776
    · rw [if_pos (by simpa using c2)]
      by_cases c3 : 100000 < (l.fEntries.length : Int)
      · rw [if_pos c3, if_neg (fun h => by have := h.2.2.1; omega)]
      · rw [if_neg c3]
        have hl : l.fEntries.length ≤ 100000 := by omega
        by_cases hg : ∀ k, k < l.fEntries.length → entG (before l.fBaseTerm l.fEntries k) (l.fEntries.getD k zeroE)
        · have hL : loop (fun s => m_plog_Check_s2 l s.1 s.2) (l.fBaseTerm, 0) = some (.inl ()) := loop_run l.fEntries.length (fun k => (before l.fBaseTerm l.fEntries k, (k : Int))) _ rfl (fun k hk => by show m_plog_Check_s2 l _ _ = _; rw [check_step l k hm hl, if_pos hk, if_pos (hg k hk)]) (by show m_plog_Check_s2 l _ _ = _; rw [check_step l _ hm hl, if_neg (by omega)])
          rw [hL, if_pos ⟨c1, c2, hl, hg⟩]
          rfl
        · obtain ⟨n, hn, hng, hgo⟩ := first_not hg
          have hL : loop (fun s => m_plog_Check_s2 l s.1 s.2) (l.fBaseTerm, 0) = some (.inr 1) := loop_run n (fun k => (before l.fBaseTerm l.fEntries k, (k : Int))) _ rfl (fun k hk => by show m_plog_Check_s2 l _ _ = _; rw [check_step l k hm hl, if_pos (by omega), if_pos (hgo k hk)]) (by show m_plog_Check_s2 l _ _ = _; rw [check_step l _ hm hl, if_pos hn, if_neg hng])
          rw [hL, if_neg (fun h => hng (h.2.2.2 n hn))]
          rfl
    · rw [if_neg (by simpa using c2), if_neg (fun h => c2 h.2.1)]
  · rw [if_neg (by simpa using c1), if_neg (fun h => c1 h.1)]
theorem m_rCheck (l : GLog) (hm : modest l.fEntries) : m_ref11_Check l = some (checkP l) := by
  unfold m_ref11_Check checkP
  by_cases a1 : l.fBase < 0
  · rw [if_pos a1, if_neg (fun h => by have := h.1; omega)]
  rw [if_neg a1]
  by_cases a2 : 1099511627776 < l.fBase
  · rw [if_pos a2, if_neg (fun h => by have := h.1; omega)]
  rw [if_neg a2]
  by_cases a3 : l.fBaseTerm < 0
  · rw [if_pos a3, if_neg (fun h => by have := h.2.1; omega)]
  rw [if_neg a3]
  by_cases a4 : 1099511627776 < l.fBaseTerm
  · rw [if_pos a4, if_neg (fun h => by have := h.2.1; omega)]
  rw [if_neg a4]
  by_cases c3 : 100000 < (l.fEntries.length : Int)
  · rw [if_pos c3, if_neg (fun h => by have := h.2.2.1; omega)]
  rw [if_neg c3]
  have hl : l.fEntries.length ≤ 100000 := by omega
  by_cases hg : ∀ k, k < l.fEntries.length → entG (before l.fBaseTerm l.fEntries k) (l.fEntries.getD k zeroE)
  · have hL : loop (fun s => m_ref11_Check_s2 l s.1 s.2) (l.fBaseTerm, 0) = some (.inl ()) := loop_run l.fEntries.length (fun k => (before l.fBaseTerm l.fEntries k, (k : Int))) _ rfl (fun k hk => by show m_ref11_Check_s2 l _ _ = _; rw [rcheck_step l k hm hl (before_pos (by omega) fun j hj => hg j (by omega)), if_pos hk, if_pos (hg k hk)]) (by show m_ref11_Check_s2 l _ _ = _; rw [rcheck_step l _ hm hl (before_pos (by omega) fun j hj => hg j (by omega)), if_neg (by omega)])
    rw [hL, if_pos ⟨by omega, by omega, hl, hg⟩]
    rfl
  · obtain ⟨n, hn, hng, hgo⟩ := first_not hg
    have hL : loop (fun s => m_ref11_Check_s2 l s.1 s.2) (l.fBaseTerm, 0) = some (.inr 1) := loop_run n (fun k => (before l.fBaseTerm l.fEntries k, (k : Int))) _ rfl (fun k hk => by show m_ref11_Check_s2 l _ _ = _; rw [rcheck_step l k hm hl (before_pos (by omega) fun j hj => hgo j (by omega)), if_pos (by omega), if_pos (hgo k hk)]) (by show m_ref11_Check_s2 l _ _ = _; rw [rcheck_step l _ hm hl (before_pos (by omega) fun j hj => hgo j (by omega)), if_pos hn, if_neg hng])
    rw [hL, if_neg (fun h => hng (h.2.2.2 n hn))]
    rfl
/-! ### What is asked of a log -/
structure okB (l : GLog) : Prop where
  lo : -1125899906842624 ≤ l.fBase
  hi : l.fBase ≤ 1125899906842625
  len : l.fEntries.length ≤ 140737488355328
def getP (l : GLog) (i : Int) : GEntry × Bool := if l.fBase < i ∧ i ≤ l.fBase + l.fEntries.length then (l.fEntries.getD (i - l.fBase - 1).toNat zeroE, true) else (zeroE, false)
def termP (l : GLog) (i : Int) : Int × Bool := if i = l.fBase then (l.fBaseTerm, true) else ((getP l i).1.fTerm, (getP l i).2)
theorem m_Last (l : GLog) (h : okB l) : m_plog_Last l = some (l.fBase + l.fEntries.length) := by
  have := h.lo; have := h.hi; have := h.len
  unfold m_plog_Last; rw [w64_id (by omega) (by omega)]
theorem m_rLast (l : GLog) (h : okB l) : m_ref11_Last l = some (l.fBase + l.fEntries.length) := m_Last l h
theorem m_Get (l : GLog) (i : Int) (h : okB l) : m_plog_Get l i = some (getP l i) := by
  have h1 := h.lo; have h2 := h.hi; have h3 := h.len
  unfold m_plog_Get getP
  by_cases c1 : i ≤ l.fBase
  · rw [if_pos c1, if_neg (by omega)]; rfl
  · rw [if_neg c1, m_Last l h]
    simp only [Option.bind_some]
    by_cases c2 : l.fBase + l.fEntries.length < i
    · rw [if_pos c2, if_neg (by omega)]; rfl
    · rw [if_neg c2, if_pos (by omega), w64_id (x := i - l.fBase) (by omega) (by omega), w64_id (x := i - l.fBase - 1) (by omega) (by omega)]
      obtain ⟨k, hk⟩ : ∃ k : Nat, i - l.fBase - 1 = k := ⟨(i - l.fBase - 1).toNat, by omega⟩
      rw [hk, at_getE (by omega), Int.toNat_natCast]
      rfl
theorem m_Term (l : GLog) (i : Int) (h : okB l) : m_plog_Term l i = some (termP l i) := by
  unfold m_plog_Term termP
  by_cases c : i = l.fBase
  · rw [if_pos c, if_pos c]
  · rw [if_neg c, if_neg c, m_Get l i h]; rfl
theorem m_SameLog (a : GLog) (hl : a.fEntries.length ≤ 140737488355328) : m_ref11_SameLog a a = some true := by
  unfold m_ref11_SameLog
  rw [if_neg (by simp), if_neg (by simp), if_neg (by simp)]
  have hL : loop (fun s => m_ref11_SameLog_s2 a a s) 0 = some (.inl ()) := loop_run a.fEntries.length (fun k => (k : Int)) _ rfl (fun k hk => by
    unfold m_ref11_SameLog_s2
    rw [if_pos (by omega), at_getE hk, w64_id (x := (k : Int) + 1) (by omega) (by omega)]
    simp) (by unfold m_ref11_SameLog_s2; rw [if_neg (by omega)])
  rw [hL]; rfl
/-- How many entries lie ahead of index i. -/
def ahead (l : GLog) (i : Int) : Nat := (i - l.fBase - 1).toNat
def exL : GLog := ⟨2, 1, [⟨1, 0, ⟨#[]⟩⟩, ⟨2, 0, ⟨#[]⟩⟩]⟩
theorem exB : okB exL := ⟨by decide, by decide, by decide⟩
theorem put1 : m_plog_Put exL 3 [⟨3, 0, ⟨#[]⟩⟩] = some (⟨2, 1, [⟨1, 0, ⟨#[]⟩⟩, ⟨3, 0, ⟨#[]⟩⟩]⟩, 4) := by
  unfold m_plog_Put
  rw [if_neg (by decide), m_Last _ exB, loop_unfold]
  have hs : m_plog_Put_s2 [⟨3, 0, ⟨#[]⟩⟩] exL 3 0 = some (.inr (.inr (⟨2, 1, [⟨1, 0, ⟨#[]⟩⟩, ⟨3, 0, ⟨#[]⟩⟩]⟩, 4))) := by
    unfold m_plog_Put_s2
    rw [m_Term _ _ exB]
    rfl
  rw [hs]
  rfl
theorem put2 : m_plog_Put exL 3 [⟨2, 0, ⟨#[]⟩⟩, ⟨2, 0, ⟨#[]⟩⟩] = some (⟨2, 1, [⟨1, 0, ⟨#[]⟩⟩, ⟨2, 0, ⟨#[]⟩⟩, ⟨2, 0, ⟨#[]⟩⟩]⟩, 5) := by
  unfold m_plog_Put
  rw [if_neg (by decide), m_Last _ exB, loop_unfold]
  have hs : m_plog_Put_s2 [⟨2, 0, ⟨#[]⟩⟩, ⟨2, 0, ⟨#[]⟩⟩] exL 3 0 = some (.inl 1) := by
    unfold m_plog_Put_s2
    rw [m_Term _ _ exB]
    rfl
  have hs2 : m_plog_Put_s2 [⟨2, 0, ⟨#[]⟩⟩, ⟨2, 0, ⟨#[]⟩⟩] exL 3 1 = some (.inr (.inr (⟨2, 1, [⟨1, 0, ⟨#[]⟩⟩, ⟨2, 0, ⟨#[]⟩⟩, ⟨2, 0, ⟨#[]⟩⟩]⟩, 5))) := by
    unfold m_plog_Put_s2
    rw [m_Term _ _ exB]
    rfl
  rw [hs]
  simp only [Option.bind_some, Sum.elim_inl]
  rw [loop_unfold, hs2]
  rfl
theorem newer_eq (l : GLog) (a b : Int) (h : okB l) : m_plog_Newer l a b = some (if (termP l (l.fBase + l.fEntries.length)).1 < b then true else if b = (termP l (l.fBase + l.fEntries.length)).1 then decide (l.fBase + l.fEntries.length ≤ a) else false) := by
  unfold m_plog_Newer
  rw [m_Last l h]
  simp only [Option.bind_some]
  rw [m_Term l _ h]
  simp only [Option.bind_some]
  repeat' split
  all_goals rfl
theorem data15 : m_plog_Data [1, 5] = some ⟨#[1, 5]⟩ := by
  unfold m_plog_Data
  have h0 : mkL 1 (([1, 5] : List Int).length : Int) (0 : Int) = some [0, 0] := rfl
  rw [h0]
  simp only [Option.bind_some]
  have h1 : m_plog_Data_s2 [1, 5] [0, 0] 0 = some (.inl ([1, 0], 1)) := rfl
  have h2 : m_plog_Data_s2 [1, 5] [1, 0] 1 = some (.inl ([1, 5], 2)) := rfl
  have h3 : m_plog_Data_s2 [1, 5] [1, 5] 2 = some (.inr [1, 5]) := rfl
  rw [loop_inl (step := fun s => m_plog_Data_s2 [1, 5] s.1 s.2) h1, loop_inl (step := fun s => m_plog_Data_s2 [1, 5] s.1 s.2) h2, loop_inr (step := fun s => m_plog_Data_s2 [1, 5] s.1 s.2) h3]
  rfl
theorem awake11 : m_law11_awake = some true := by
  unfold m_law11_awake
  rw [show m_law11_example = some exL from rfl]
  simp only [Option.bind_some]
  rw [m_Term _ _ exB, m_Term _ _ exB, m_Term _ _ exB]
  simp only [Option.bind_some]
  rw [show m_plog_Put exL 3 _ = _ from put1, show m_plog_Put exL 3 _ = _ from put2, m_Last _ exB]
  simp only [Option.bind_some]
  rw [newer_eq _ _ _ exB, newer_eq _ _ _ exB, newer_eq _ _ _ exB, data15]
  rfl
open Go.RowKit
/-! ### Bytes -/
theorem m_SameInts (a b : List Int) (hl : a.length ≤ 1000000) : m_ref11_SameInts a b = some (decide (a = b)) := by
  unfold m_ref11_SameInts
  by_cases hab : (a.length : Int) = b.length
  · rw [if_neg (by omega)]
    have hstep : ∀ k, k < a.length → m_ref11_SameInts_s2 a b (k : Int) = if a.getD k 0 = b.getD k 0 then some (.inl ((k + 1 : Nat) : Int)) else some (.inr (.inr false)) := fun k hk => by
      unfold m_ref11_SameInts_s2
      rw [if_pos (by omega), at_getD hk, at_getD (by omega), w64_id (x := (k : Int) + 1) (by omega) (by omega)]
      simp only [Option.bind_some]
      by_cases h : a.getD k 0 = b.getD k 0
      · rw [if_neg (fun hn => hn h), if_pos h]; rfl
      · rw [if_pos h, if_neg h]
    have hend : m_ref11_SameInts_s2 a b (a.length : Int) = some (.inr (.inl ())) := by
      unfold m_ref11_SameInts_s2; rw [if_neg (by omega)]
    by_cases hg : ∀ k, k < a.length → a.getD k 0 = b.getD k 0
    · have hL : loop (fun s => m_ref11_SameInts_s2 a b s) 0 = some (.inl ()) := loop_run a.length (fun k => (k : Int)) _ rfl (fun k hk => by rw [hstep k hk, if_pos (hg k hk)]) hend
      rw [hL]
      have : a = b := List.ext_getElem (by omega) fun j h1 h2 => by
        have := hg j h1
        rw [List.getD_eq_getElem?_getD, List.getD_eq_getElem?_getD, List.getElem?_eq_getElem h1, List.getElem?_eq_getElem h2] at this
        exact this
      simp [this, m_ref11_SameInts_j1]
    · obtain ⟨n, hn, hng, hgo⟩ := first_not hg
      have hL : loop (fun s => m_ref11_SameInts_s2 a b s) 0 = some (.inr false) := loop_run n (fun k => (k : Int)) _ rfl (fun k hk => by rw [hstep k (by omega), if_pos (hgo k hk)]) (by rw [hstep n hn, if_neg hng])
      rw [hL]
      have : a ≠ b := fun h => hng (by rw [h])
      simp [this]
  · rw [if_pos hab]
    have : a ≠ b := fun h => hab (by rw [h])
    simp [this]
/-- A log whose records are short, and few. -/
structure okR (l : GLog) : Prop where
  b : okB l
  len : l.fEntries.length ≤ 1000
  data : ∀ k, k < l.fEntries.length → (l.fEntries.getD k zeroE).fData.size ≤ 100000
structure okH (h : GHard) : Prop where
  log : okR h.fLog
  voters : h.fVoters.length ≤ 1000
  snap : h.fSnap.size ≤ 100000
/-! ### Numbers read -/
def val8 (s : ByteArray) : Nat → Int
  | 0 => 0
  | k + 1 => val8 s k * 256 + byteAt s k
theorem val8_bound (s : ByteArray) : ∀ k, 0 ≤ val8 s k ∧ val8 s k < 256 ^ k
  | 0 => by simp [val8]
  | k + 1 => by
    have h := val8_bound s k
    have hb := byteAt_lt s k
    have hp : (256 : Int) ^ (k + 1) = 256 ^ k * 256 := Int.pow_succ ..
    unfold val8
    omega
theorem val8_mono (s : ByteArray) (k : Nat) : val8 s k ≤ val8 s (k + 1) := by
  have h := val8_bound s k
  have hb := byteAt_lt s k
  rw [show val8 s (k + 1) = val8 s k * 256 + byteAt s k from rfl]
  omega
theorem val8_le (s : ByteArray) {k n : Nat} (h : k ≤ n) : val8 s k ≤ val8 s n := by
  induction n with
  | zero => rw [Nat.le_zero.1 h]; exact Int.le_refl _
  | succ n ih =>
    rcases Nat.lt_or_ge n k with hk | hk
    · rw [show k = n + 1 by omega]; exact Int.le_refl _
    · exact Int.le_trans (ih hk) (val8_mono s n)
theorem or_add (a b : Int) (ha : 0 ≤ a) (ha2 : a < 72057594037927936) (hb : 0 ≤ b ∧ b ≤ 255) : orI .u64 (a * 256) b = a * 256 + b := by
  obtain ⟨m, rfl⟩ := Int.eq_ofNat_of_zero_le ha
  obtain ⟨n, rfl⟩ := Int.eq_ofNat_of_zero_le hb.1
  unfold orI
  have h1 : BitVec.ofInt IntKind.u64.bits ((m : Int) * 256) = BitVec.ofNat 64 (m * 256) := by
    rw [show (m : Int) * 256 = ((m * 256 : Nat) : Int) by omega]; exact BitVec.ofInt_natCast ..
  have h2 : BitVec.ofInt IntKind.u64.bits (n : Int) = BitVec.ofNat 64 n := BitVec.ofInt_natCast ..
  rw [h1, h2]
  have h3 : ((BitVec.ofNat 64 (m * 256) ||| BitVec.ofNat 64 n).toNat : Nat) = m * 256 + n := by
    rw [BitVec.toNat_or, BitVec.toNat_ofNat, BitVec.toNat_ofNat, Nat.mod_eq_of_lt (by omega), Nat.mod_eq_of_lt (by omega)]
    have := Nat.two_pow_add_eq_or_of_lt (i := 8) (b := n) (by omega) m
    rw [Nat.mul_comm m 256]
    exact this.symm
  have e : IntKind.u64.wrap (((BitVec.ofNat 64 (m * 256) ||| BitVec.ofNat 64 n).toNat : Nat) : Int) = IntKind.u64.wrap ((m * 256 + n : Nat) : Int) := congrArg (fun z : Nat => IntKind.u64.wrap (z : Int)) h3
  exact e.trans (by rw [wrapu64 (by omega) (by omega)]; omega)
def takeR (n : Int) (s : ByteArray) (b : Bool) : ByteArray × ByteArray × Bool := if n < 0 ∨ (s.size : Int) < n then (⟨#[]⟩, s, true) else (s.extract 0 n.toNat, s.extract n.toNat s.size, b)
theorem m_take (n : Int) (s : ByteArray) (b : Bool) : m_plog_read_c1 n s b = some (takeR n s b) := by
  unfold m_plog_read_c1 takeR
  by_cases h1 : n < 0
  · rw [if_pos h1, if_pos (.inl h1)]
  · rw [if_neg h1]
    by_cases h2 : (s.size : Int) < n
    · rw [if_pos h2, if_pos (.inr h2)]
    · rw [if_neg h2, if_neg (by omega)]
      unfold scutHi scutLo
      rw [if_pos (by omega), if_pos (by omega)]; rfl
theorem m_rtake (n : Int) (o : Gref11_reader) : m_ref11_reader_take n o = some ((takeR n o.fs o.fbad).1, ⟨(takeR n o.fs o.fbad).2.1, (takeR n o.fs o.fbad).2.2⟩) := by
  unfold m_ref11_reader_take takeR
  by_cases h1 : n < 0
  · rw [if_pos h1, if_pos (.inl h1)]
  · rw [if_neg h1]
    by_cases h2 : (o.fs.size : Int) < n
    · rw [if_pos h2, if_pos (.inr h2)]
    · rw [if_neg h2, if_neg (by omega)]
      unfold scutHi scutLo
      rw [if_pos (by omega), if_pos (by omega)]; rfl
theorem takeR_size (n : Int) (s : ByteArray) (b : Bool) : ((takeR n s b).1.size = 0 ∨ ((takeR n s b).1.size : Int) = n) ∧ (takeR n s b).1.size ≤ s.size ∧ (takeR n s b).2.1.size ≤ s.size := by
  unfold takeR
  split
  · exact ⟨.inl rfl, Nat.zero_le _, Nat.le_refl _⟩
  · simp only [ByteArray.size_extract]
    omega
def numR (s : ByteArray) (b : Bool) : Int × Bool × ByteArray :=
  if 2199023255552 ≤ val8 (takeR 8 s b).1 (takeR 8 s b).1.size then (0, true, (takeR 8 s b).2.1) else (val8 (takeR 8 s b).1 (takeR 8 s b).1.size, (takeR 8 s b).2.2, (takeR 8 s b).2.1)
theorem m_num (b : Bool) (s : ByteArray) : m_plog_read_c2 b s = some (numR s b) := by
  unfold m_plog_read_c2
  rw [m_take]
  simp only [Option.bind_some]
  generalize ht : takeR 8 s b = t
  have hsz : t.1.size ≤ 8 := by have := (takeR_size 8 s b).1; rw [ht] at this; omega
  have hL : loop (fun x => m_plog_read_c2_s2 t.1 x.1 x.2) (0, 0) = some (val8 t.1 t.1.size) := by
    refine loop_run t.1.size (fun k => (val8 t.1 k, (k : Int))) _ rfl (fun k hk => ?_) ?_
    · show m_plog_read_c2_s2 t.1 _ _ = _
      unfold m_plog_read_c2_s2
      have hv := val8_bound t.1 k
      have hv2 : (256 : Int) ^ k ≤ 256 ^ 7 := by
        have := Nat.pow_le_pow_right (n := 256) (by decide) (show k ≤ 7 by omega)
        exact_mod_cast this
      have hb := byteAt_lt t.1 k
      rw [bytesI_length, if_pos (by omega), ← sat_eq_at, sat_of (by omega) (by omega)]
      simp only [Option.bind_some]
      rw [wrapu64 (x := val8 t.1 k * 256) (by omega) (by omega), wrapu64 (x := byteAt t.1 k) (by omega) (by omega), or_add _ _ (by omega) (by omega) hb, w64_id (x := (k : Int) + 1) (by omega) (by omega)]
      rfl
    · show m_plog_read_c2_s2 t.1 _ _ = _
      unfold m_plog_read_c2_s2
      rw [bytesI_length, if_neg (by omega)]
  rw [hL]
  simp only [Option.bind_some, m_plog_read_c2_j1, numR, ht]
  have hv := val8_bound t.1 t.1.size
  by_cases h : 2199023255552 ≤ val8 t.1 t.1.size
  · rw [if_pos h, if_pos h]
  · rw [if_neg h, if_neg h, w64_id (by omega) (by omega)]
theorem val8_eight (s : ByteArray) : val8 s 8 = (((((((byteAt s 0 * 256 + byteAt s 1) * 256 + byteAt s 2) * 256 + byteAt s 3) * 256 + byteAt s 4) * 256 + byteAt s 5) * 256 + byteAt s 6) * 256 + byteAt s 7) := by
  simp [val8]
theorem m_rnum (o : Gref11_reader) : m_ref11_reader_number o = some ((numR o.fs o.fbad).1, ⟨(numR o.fs o.fbad).2.2, (numR o.fs o.fbad).2.1⟩) := by
  unfold m_ref11_reader_number
  rw [m_rtake]
  simp only [Option.bind_some, numR]
  have hb : ((takeR 8 o.fs o.fbad).1.size : Int) < 8 → (takeR 8 o.fs o.fbad).2.2 = true ∧ (takeR 8 o.fs o.fbad).1.size = 0 := by
    unfold takeR
    split
    · exact fun _ => ⟨rfl, rfl⟩
    · intro h
      simp only [ByteArray.size_extract] at h
      omega
  have hs := (takeR_size 8 o.fs o.fbad).1
  generalize ht : takeR 8 o.fs o.fbad = t at *
  by_cases h8 : (t.1.size : Int) < 8
  · rw [if_pos h8]
    obtain ⟨h1, h2⟩ := hb h8
    rw [h2, if_neg (by simp [val8])]
    simp [val8, h1]
  · rw [if_neg h8]
    have h8' : t.1.size = 8 := by omega
    have e := val8_eight t.1
    have b0 := byteAt_lt t.1 0
    have b1 := byteAt_lt t.1 1
    have b2 := byteAt_lt t.1 2
    have b3 := byteAt_lt t.1 3
    have b4 := byteAt_lt t.1 4
    have b5 := byteAt_lt t.1 5
    have b6 := byteAt_lt t.1 6
    have b7 := byteAt_lt t.1 7
    rw [h8', sat_of (i := 0) (by omega) (by omega), sat_of (i := 1) (by omega) (by omega), sat_of (i := 2) (by omega) (by omega)]
    simp only [Option.bind_some]
    by_cases c0 : 0 < byteAt t.1 0
    · rw [if_pos c0, if_pos (by omega)]
    rw [if_neg c0]
    by_cases c1 : 0 < byteAt t.1 1
    · rw [if_pos c1, if_pos (by omega)]
    rw [if_neg c1]
    by_cases c2 : 1 < byteAt t.1 2
    · rw [if_pos c2, if_pos (by omega)]
    rw [if_neg c2, if_neg (by omega)]
    have hL : loop (fun x => m_ref11_reader_number_s2 t.1 x.1 x.2) (0, 0) = some (val8 t.1 8) := by
      refine loop_run 8 (fun k => (val8 t.1 k, (k : Int))) _ rfl (fun k hk => ?_) ?_
      · show m_ref11_reader_number_s2 t.1 _ _ = _
        unfold m_ref11_reader_number_s2
        have hv := val8_bound t.1 k
        have hm := val8_le t.1 (show k + 1 ≤ 8 by omega)
        have hd : val8 t.1 (k + 1) = val8 t.1 k * 256 + byteAt t.1 k := rfl
        have hb := byteAt_lt t.1 k
        rw [if_pos (by omega), sat_of (by omega) (by omega)]
        simp only [Option.bind_some]
        rw [w64_id (x := val8 t.1 k * 256) (by omega) (by omega), w64_id (x := byteAt t.1 k) (by omega) (by omega), w64_id (x := val8 t.1 k * 256 + byteAt t.1 k) (by omega) (by omega), w64_id (x := (k : Int) + 1) (by omega) (by omega)]
        rfl
      · show m_ref11_reader_number_s2 t.1 _ _ = _
        unfold m_ref11_reader_number_s2
        rw [if_neg (by omega)]
    rw [hL]
    rfl
theorem numR_range (s : ByteArray) (b : Bool) : 0 ≤ (numR s b).1 ∧ (numR s b).1 < 2199023255552 ∧ (numR s b).2.2.size ≤ s.size := by
  have h := val8_bound (takeR 8 s b).1 (takeR 8 s b).1.size
  have h2 := (takeR_size 8 s b).2.2
  unfold numR
  split <;> simp only <;> omega
/-! ### Lists of voters read -/
theorem right_step (l : List Int) (k : Nat) (hl : l.length ≤ 9223372036854775807) : m_ref11_Right_s2 l (k : Int) = if k < l.length then (if good l k then some (.inl ((k + 1 : Nat) : Int)) else some (.inr (.inr false))) else some (.inr (.inl ())) := by
  unfold m_ref11_Right_s2
  by_cases hk : k < l.length
  · rw [if_pos (by omega), if_pos hk, at_getD hk]
    simp only [Option.bind_some]
    rw [w64_id (x := (k : Int) + 1) (by omega) (by omega)]
    by_cases h1 : l.getD k 0 < 0
    · rw [if_pos h1, if_neg (fun h => by have := h.1; omega)]
    · rw [if_neg h1]
      by_cases h2 : 63 < l.getD k 0
      · rw [if_pos h2, if_neg (fun h => by have := h.2.1; omega)]
      · rw [if_neg h2]
        by_cases h3 : (0 : Int) < k
        · rw [if_pos h3, w64_id (x := (k : Int) - 1) (by omega) (by omega), show (k : Int) - 1 = ((k - 1 : Nat) : Int) by omega, at_getD (by omega)]
          simp only [Option.bind_some]
          by_cases h4 : l.getD k 0 ≤ l.getD (k - 1) 0
          · rw [if_pos h4, if_neg (fun h => by have := h.2.2 (by omega); omega)]
          · rw [if_neg h4, if_pos ⟨by omega, by omega, fun _ => by omega⟩]; rfl
        · rw [if_neg h3, if_pos ⟨by omega, by omega, fun _ => by omega⟩]; rfl
  · rw [if_neg (by omega), if_neg hk]
theorem m_Right (l : List Int) (hl : l.length ≤ 9223372036854775807) : m_ref11_Right l = some (risingP l) := by
  unfold m_ref11_Right
  by_cases hg : ∀ k, k < l.length → good l k
  · have hL : loop (fun s => m_ref11_Right_s2 l s) 0 = some (.inl ()) := loop_run l.length (fun k => (k : Int)) _ rfl (fun k hk => by rw [right_step l k hl, if_pos hk, if_pos (hg k hk)]) (by rw [right_step l _ hl, if_neg (by omega)])
    rw [hL]
    simp only [Option.bind_some, Sum.elim_inl, m_ref11_Right_j1, risingP, Option.some.injEq, decide_eq_decide]
    constructor
    · intro h; exact ⟨by omega, hg⟩
    · intro h; omega
  · obtain ⟨n, hn, hng, hgo⟩ := first_not hg
    have hL : loop (fun s => m_ref11_Right_s2 l s) 0 = some (.inr false) := loop_run n (fun k => (k : Int)) _ rfl (fun k hk => by rw [right_step l k hl, if_pos (by omega), if_pos (hgo k hk)]) (by rw [right_step l _ hl, if_pos hn, if_neg hng])
    rw [hL]
    simp only [Option.bind_some, Sum.elim_inr, risingP, Option.some.injEq]
    exact (decide_eq_false (fun h => hng (h.2 n hn))).symm
theorem m_voters (s : ByteArray) (hs : s.size ≤ 17592186044416) : loop (fun x => m_ref11_Load_s6 s x.1 x.2) (([] : List Int), 0) = some (bytesI s) := by
  refine loop_run s.size (fun k => ((bytesI s).take k, (k : Int))) _ rfl (fun k hk => ?_) ?_
  · show m_ref11_Load_s6 s _ _ = _
    unfold m_ref11_Load_s6
    rw [if_pos (by omega), sat_of (by omega) (by omega)]
    simp only [Option.bind_some]
    have hb := byteAt_lt s k
    rw [w64_id (x := byteAt s k) (by omega) (by omega), app_of (by simp [bytesI_length]; omega)]
    simp only [Option.bind_some]
    rw [w64_id (x := (k : Int) + 1) (by omega) (by omega), List.take_succ_eq_append_getElem (by rw [bytesI_length]; exact hk), bytesI_get s k hk]
    rfl
  · show m_ref11_Load_s6 s _ _ = _
    unfold m_ref11_Load_s6
    rw [if_neg (by omega), List.take_of_length_le (by rw [bytesI_length]; exact Nat.le_refl _)]
/-! ### One record read -/
def zeroH : GHard := ⟨0, 0, [], ⟨#[]⟩, ⟨0, 0, []⟩⟩
def okL (n : Nat) (h : GHard) : Prop := 0 ≤ h.fTerm ∧ 0 ≤ h.fVote ∧ h.fVoters.length ≤ 400 ∧ (0 ≤ h.fLog.fBase ∧ h.fLog.fBase < 2199023255552) ∧ h.fLog.fEntries.length ≤ n ∧ ∀ e ∈ h.fLog.fEntries, e.fData.size ≤ 400
abbrev LSt := Int × Int × Int × (List Int) × ByteArray × Int × Int × (List GEntry)
abbrev LOut := (Int × Int × (List Int) × ByteArray × Int × Int × (List GEntry)) ⊕ (GHard × Int)
def told (i : Int) (r : GHard × Bool) : Option (LSt ⊕ LOut) := if r.2 = true then some (.inl (w64 (i + 1), r.1.fTerm, r.1.fVote, r.1.fVoters, r.1.fSnap, r.1.fLog.fBase, r.1.fLog.fBaseTerm, r.1.fLog.fEntries)) else some (.inr (.inr (zeroH, 10)))
theorem told_no (i : Int) (h : GHard) : told i (h, false) = some (.inr (.inr (zeroH, 10))) := rfl
theorem j4_bad (i a b d e : Int) (s sn : ByteArray) (vs : List Int) (es : List GEntry) : m_ref11_Load_j4 i s true a b vs sn d e es = some (.inr (.inr (zeroH, 10))) := rfl
theorem bytesI_none : bytesI (⟨#[]⟩ : ByteArray) = [] := rfl
theorem read_spec (h : GHard) (x : ByteArray) (i : Int) (n : Nat) (hn : n ≤ 1000) (hx : x.size ≤ 400) (hx0 : x ≠ ⟨#[]⟩) (ho : okL n h) :
    ∃ r : GHard × Bool, m_plog_read h x = some r ∧ m_ref11_Load_j3 x i h.fVoters h.fSnap h.fLog.fBase h.fLog.fBaseTerm h.fLog.fEntries h.fTerm h.fVote = told i r ∧ (r.2 = true → okL (n + 1) r.1) := by
  obtain ⟨o1, o2, o3, o4, o5, o6⟩ := ho
  have hsz : 0 < x.size := by
    rcases Nat.eq_zero_or_pos x.size with h0 | h0
    · exact absurd (bytesI_inj (by rw [bytesI_none]; exact List.length_eq_zero_iff.1 (by rw [bytesI_length]; exact h0))) hx0
    · exact h0
  unfold m_plog_read m_ref11_Load_j3
  have hcut : scutLo x 1 = some (x.extract 1 x.size) := by unfold scutLo; rw [if_pos (by omega)]; rfl
  rw [hcut, sat_of (i := 0) (by omega) (by omega)]
  simp only [Option.bind_some]
  have hsx : (x.extract 1 x.size).size ≤ 400 := by rw [ByteArray.size_extract]; omega
  generalize x.extract 1 x.size = s at hsx
  by_cases c87 : byteAt x 0 = 87
  · rw [if_pos c87, if_pos c87]
    simp only [m_num, m_rnum, m_take, m_rtake, Option.bind_some]
    have r1 := numR_range s false
    generalize numR s false = n1 at r1 ⊢
    have r2 := numR_range n1.2.2 n1.2.1
    generalize numR n1.2.2 n1.2.1 = n2 at r2 ⊢
    have r3 := numR_range n2.2.2 n2.2.1
    generalize numR n2.2.2 n2.2.1 = n3 at r3 ⊢
    have r4 := numR_range n3.2.2 n3.2.1
    generalize numR n3.2.2 n3.2.1 = n4 at r4 ⊢
    have r5 := numR_range n4.2.2 n4.2.1
    generalize numR n4.2.2 n4.2.1 = n5 at r5 ⊢
    have r6 := takeR_size n5.1 n5.2.2 n5.2.1
    generalize takeR n5.1 n5.2.2 n5.2.1 = T at r6 ⊢
    rw [m_List _ (by omega), m_voters _ (by omega)]
    simp only [Option.bind_some, m_ref11_Load_j5, m_rnum, m_rtake]
    rw [m_Right _ (by rw [bytesI_length]; omega)]
    simp only [Option.bind_some]
    generalize numR T.2.1 T.2.2 = n6
    generalize takeR n6.1 n6.2.2 n6.2.1 = S
    by_cases cS : S.2.2 = true
    · rw [if_pos cS, if_pos cS, j4_bad]
      exact ⟨_, rfl, rfl, fun h => by cases h⟩
    rw [if_neg cS, if_neg cS]
    have hlen : (bytesI T.1).length ≤ 400 := by rw [bytesI_length]; omega
    by_cases cR : risingP (bytesI T.1) = true
    · have hl : listP T.1 = (bytesI T.1, true) := by unfold listP; rw [if_pos cR]
      rw [hl, if_pos cR]
      by_cases cE : S.2.1 = (⟨#[]⟩ : ByteArray)
      · rw [if_pos cE, if_pos rfl]
        by_cases c5 : 50000 < (S.1.size : Int)
        · rw [if_pos c5, j4_bad, decide_eq_false (p := (S.1.size : Int) ≤ 50000) (by omega)]
          exact ⟨_, rfl, rfl, fun h => by cases h⟩
        · rw [if_neg c5, decide_eq_true (p := (S.1.size : Int) ≤ 50000) (by omega), decide_eq_true cE]
          exact ⟨_, rfl, rfl, fun _ => ⟨r1.1, r2.1, hlen, ⟨r3.1, r3.2.1⟩, Nat.zero_le _, fun e he => by cases he⟩⟩
      · rw [if_neg cE, decide_eq_false cE]
        by_cases c5 : 50000 < (S.1.size : Int)
        · rw [if_pos c5, j4_bad]
          exact ⟨_, rfl, rfl, fun h => by cases h⟩
        · rw [if_neg c5]
          exact ⟨_, rfl, rfl, fun h => by cases h⟩
    · have hl : listP T.1 = ([], false) := by unfold listP; rw [if_neg cR]
      rw [hl, if_neg cR]
      by_cases c0 : T.1 = (⟨#[]⟩ : ByteArray)
      · rw [if_neg (c := (0 : Int) < ((bytesI T.1).length : Int)) (by rw [c0, bytesI_none]; simp), c0, bytesI_none]
        by_cases cE : S.2.1 = (⟨#[]⟩ : ByteArray)
        · rw [if_pos cE, if_neg (by simp), if_pos rfl]
          by_cases c5 : 50000 < (S.1.size : Int)
          · rw [if_pos c5, j4_bad, decide_eq_false (p := (S.1.size : Int) ≤ 50000) (by omega)]
            exact ⟨_, rfl, rfl, fun h => by cases h⟩
          · rw [if_neg c5, decide_eq_true (p := (S.1.size : Int) ≤ 50000) (by omega), decide_eq_true cE]
            exact ⟨_, rfl, rfl, fun _ => ⟨r1.1, r2.1, Nat.zero_le _, ⟨r3.1, r3.2.1⟩, Nat.zero_le _, fun e he => by cases he⟩⟩
        · rw [if_neg cE, decide_eq_false cE]
          by_cases c5 : 50000 < (S.1.size : Int)
          · rw [if_pos c5, j4_bad]
            exact ⟨_, rfl, rfl, fun h => by cases h⟩
          · rw [if_neg c5]
            exact ⟨_, rfl, rfl, fun h => by cases h⟩
      · have hp : 0 < T.1.size := by
          rcases Nat.eq_zero_or_pos T.1.size with h0 | h0
          · exact absurd (bytesI_inj (by rw [bytesI_none]; exact List.length_eq_zero_iff.1 (by rw [bytesI_length]; exact h0))) c0
          · exact h0
        rw [if_pos (c := (0 : Int) < ((bytesI T.1).length : Int)) (by rw [bytesI_length]; omega), j4_bad]
        by_cases cE : S.2.1 = (⟨#[]⟩ : ByteArray)
        · rw [if_pos cE, if_neg (by simp), if_neg c0]
          exact ⟨_, rfl, rfl, fun h => by cases h⟩
        · rw [if_neg cE]
          exact ⟨_, rfl, rfl, fun h => by cases h⟩
  rw [if_neg c87, if_neg c87]
  by_cases c84 : byteAt x 0 = 84
  · rw [if_pos c84, if_pos c84]
    simp only [m_num, m_rnum, Option.bind_some]
    have r1 := numR_range s false
    generalize numR s false = n1 at r1 ⊢
    have r2 := numR_range n1.2.2 n1.2.1
    generalize numR n1.2.2 n1.2.1 = n2 at r2 ⊢
    by_cases cS : n2.2.1 = true
    · rw [if_pos cS, if_pos cS, j4_bad]
      exact ⟨_, rfl, rfl, fun h => by cases h⟩
    rw [if_neg cS, if_neg cS]
    by_cases cE : n2.2.2 = (⟨#[]⟩ : ByteArray)
    · rw [decide_eq_true cE]
      exact ⟨_, rfl, rfl, fun _ => ⟨r1.1, r2.1, o3, o4, Nat.le_succ_of_le o5, o6⟩⟩
    · rw [decide_eq_false cE]
      exact ⟨_, rfl, rfl, fun h => by cases h⟩
  rw [if_neg c84, if_neg c84]
  by_cases c69 : byteAt x 0 = 69
  · rw [if_pos c69, if_pos c69]
    simp only [m_num, m_rnum, m_take, m_rtake, Option.bind_some]
    have r1 := numR_range s false
    generalize numR s false = n1 at r1 ⊢
    have r2 := numR_range n1.2.2 n1.2.1
    generalize numR n1.2.2 n1.2.1 = n2 at r2 ⊢
    have r3 := takeR_size 1 n2.2.2 n2.2.1
    have r4 : ¬ (takeR 1 n2.2.2 n2.2.1).2.2 = true → (takeR 1 n2.2.2 n2.2.1).1.size = 1 := by
      unfold takeR
      split
      · intro h; exact absurd rfl h
      · intro _; simp only [ByteArray.size_extract]; omega
    generalize takeR 1 n2.2.2 n2.2.1 = T at r3 r4 ⊢
    by_cases cS : T.2.2 = true
    · rw [if_pos cS, if_pos cS]
      unfold m_ref11_Load_j7
      rw [if_pos cS]
      exact ⟨_, rfl, rfl, fun h => by cases h⟩
    rw [if_neg cS, if_neg cS, sat_of (i := 0) (by omega) (by have := r4 cS; omega)]
    simp only [Option.bind_some, m_ref11_Load_j7]
    rw [if_neg cS]
    by_cases cB : n1.1 ≤ h.fLog.fBase
    · rw [if_pos cB, if_pos cB]
      exact ⟨_, rfl, rfl, fun h => by cases h⟩
    rw [if_neg cB, if_neg cB]
    simp only [m_plog_Last, m_ref11_Last, Option.bind_some]
    rw [w64_id (x := h.fLog.fBase + (h.fLog.fEntries.length : Int)) (by omega) (by omega), w64_id (x := h.fLog.fBase + (h.fLog.fEntries.length : Int) + 1) (by omega) (by omega)]
    by_cases cL : h.fLog.fBase + (h.fLog.fEntries.length : Int) + 1 < n1.1
    · rw [if_pos cL, if_pos cL]
      exact ⟨_, rfl, rfl, fun h => by cases h⟩
    rw [if_neg cL, if_neg cL]
    simp only [m_plog_upto, m_plog_Add, m_ref11_Add]
    rw [w64_id (x := n1.1 - 1) (by omega) (by omega), w64_id (x := n1.1 - 1 - h.fLog.fBase) (by omega) (by omega), w64_id (x := n1.1 - h.fLog.fBase) (by omega) (by omega), w64_id (x := n1.1 - h.fLog.fBase - 1) (by omega) (by omega)]
    have hk : cutHi h.fLog.fEntries (n1.1 - 1 - h.fLog.fBase) = some (h.fLog.fEntries.take (n1.1 - 1 - h.fLog.fBase).toNat) := by unfold cutHi; rw [if_pos (by omega)]
    rw [show n1.1 - h.fLog.fBase - 1 = n1.1 - 1 - h.fLog.fBase by omega, hk]
    simp only [Option.bind_some]
    have htl : (h.fLog.fEntries.take (n1.1 - 1 - h.fLog.fBase).toNat).length ≤ n := by rw [List.length_take]; omega
    have htm : ∀ e ∈ h.fLog.fEntries.take (n1.1 - 1 - h.fLog.fBase).toNat, e.fData.size ≤ 400 := fun e he => o6 e (List.mem_of_mem_take he)
    generalize h.fLog.fEntries.take (n1.1 - 1 - h.fLog.fBase).toNat = L at htl htm ⊢
    have hc2 : cutHi L (L.length : Int) = some L := by unfold cutHi; rw [if_pos (by omega)]; simp
    have ha0 : app 32 ([] : List GEntry) L = some L := by rw [app_of (by simp; omega)]; rfl
    have ha1 : ∀ e : GEntry, app 32 L [e] = some (L ++ [e]) := fun e => app_of (by simp; omega)
    rw [hc2, ha0]
    simp only [Option.bind_some]
    rw [ha1]
    simp only [Option.bind_some, m_plog_read_j1]
    have cS' : T.2.2 = false := by cases hh : T.2.2 <;> simp_all
    unfold m_ref11_Load_j4
    rw [if_neg cS]
    refine ⟨_, rfl, rfl, fun _ => ⟨o1, o2, o3, o4, ?_, ?_⟩⟩
    · show (L ++ [_]).length ≤ _
      rw [List.length_append]; exact Nat.add_le_add_right htl 1
    · intro e he
      rcases List.mem_append.1 he with h1 | h1
      · exact htm e h1
      · rw [List.mem_singleton.1 h1]
        show T.2.1.size ≤ 400
        omega
  · rw [if_neg c69, if_neg c69]
    exact ⟨_, rfl, rfl, fun h => by cases h⟩
/-! ### The whole of it -/
theorem m_SameH (h : GHard) (h1 : h.fVoters.length ≤ 1000000) (h2 : h.fLog.fEntries.length ≤ 140737488355328) : m_ref11_Same h h = some true := by
  unfold m_ref11_Same
  rw [m_SameLog _ h2, m_SameInts _ _ h1]
  simp
def hardOf (e : Int × Int × (List Int) × ByteArray × Int × Int × (List GEntry)) : GHard := ⟨e.1, e.2.1, e.2.2.1, e.2.2.2.1, ⟨e.2.2.2.2.1, e.2.2.2.2.2.1, e.2.2.2.2.2.2⟩⟩
def stOf (i : Int) (h : GHard) : LSt := (i, h.fTerm, h.fVote, h.fVoters, h.fSnap, h.fLog.fBase, h.fLog.fBaseTerm, h.fLog.fEntries)
noncomputable def stepA (L : List ByteArray) (s : LSt) : Option (LSt ⊕ LOut) := m_plog_Load_s2 L s.1 s.2.1 s.2.2.1 s.2.2.2.1 s.2.2.2.2.1 s.2.2.2.2.2.1 s.2.2.2.2.2.2.1 s.2.2.2.2.2.2.2
noncomputable def stepB (L : List ByteArray) (s : LSt) : Option (LSt ⊕ LOut) := m_ref11_Load_s2 L s.1 s.2.1 s.2.2.1 s.2.2.2.1 s.2.2.2.2.1 s.2.2.2.2.2.1 s.2.2.2.2.2.2.1 s.2.2.2.2.2.2.2
def lenient (n : Nat) (o : LOut) : Prop := (∀ e, o = .inl e → okL n (hardOf e)) ∧ ∀ z, o = .inr z → z = (zeroH, 10)
theorem loads_step (L : List ByteArray) (hL : L.length ≤ 40) (hs : ∀ x ∈ L, x.size ≤ 400) (k : Nat) (hk : k < L.length) (h : GHard) (ho : okL k h) :
    ∃ o : LSt ⊕ LOut, stepA L (stOf k h) = some o ∧ stepB L (stOf k h) = some o ∧ ((∃ h', o = .inl (stOf ((k + 1 : Nat) : Int) h') ∧ okL (k + 1) h') ∨ o = .inr (.inr (zeroH, 10))) := by
  unfold stepA stepB stOf
  simp only
  unfold m_plog_Load_s2 m_ref11_Load_s2
  have hx : L[k].size ≤ 400 := hs _ (List.getElem_mem hk)
  rw [if_pos (by omega), if_pos (by omega), at_nat hk]
  simp only [Option.bind_some]
  generalize L[k] = x at hx ⊢
  by_cases c : x = (⟨#[]⟩ : ByteArray)
  · rw [if_pos c, if_pos c]
    exact ⟨_, rfl, rfl, .inr rfl⟩
  rw [if_neg c, if_neg c]
  obtain ⟨r, hr1, hr2, hr3⟩ := read_spec h x k k (by omega) hx c ho
  have hA : m_plog_Load_j3 h.fTerm h.fVote h.fVoters h.fSnap h.fLog.fBase h.fLog.fBaseTerm h.fLog.fEntries x k = told k r := by
    unfold m_plog_Load_j3
    rw [show m_plog_read (⟨h.fTerm, h.fVote, h.fVoters, h.fSnap, (⟨h.fLog.fBase, h.fLog.fBaseTerm, h.fLog.fEntries⟩ : GLog)⟩ : GHard) x = some r from hr1]
    rfl
  have hT : ∃ o : LSt ⊕ LOut, told k r = some o ∧ ((∃ h', o = .inl (stOf ((k + 1 : Nat) : Int) h') ∧ okL (k + 1) h') ∨ o = .inr (.inr (zeroH, 10))) := by
    unfold told
    by_cases c2 : r.2 = true
    · rw [if_pos c2, w64_id (x := (k : Int) + 1) (by omega) (by omega)]
      exact ⟨_, rfl, .inl ⟨r.1, rfl, hr3 c2⟩⟩
    · rw [if_neg c2]
      exact ⟨_, rfl, .inr rfl⟩
  obtain ⟨o, ho1, ho2⟩ := hT
  rw [hA, hr2, ho1]
  by_cases c0 : (k : Int) = 0
  · rw [if_pos c0]
    have hsz : 0 < x.size := by
      rcases Nat.eq_zero_or_pos x.size with h0 | h0
      · exact absurd (bytesI_inj (by rw [bytesI_none]; exact List.length_eq_zero_iff.1 (by rw [bytesI_length]; exact h0))) c
      · exact h0
    rw [sat_of (i := 0) (by omega) (by omega)]
    simp only [Option.bind_some]
    by_cases cW : byteAt x 0 ≠ 87
    · rw [if_pos cW]
      exact ⟨_, rfl, rfl, .inr rfl⟩
    · rw [if_neg cW]
      exact ⟨_, rfl, rfl, ho2⟩
  · rw [if_neg c0]
    exact ⟨_, rfl, rfl, ho2⟩
theorem loads_loop (L : List ByteArray) (hL : L.length ≤ 40) (hs : ∀ x ∈ L, x.size ≤ 400) : ∀ (d k : Nat) (h : GHard), k + d = L.length → okL k h →
    ∃ o : LOut, loop (stepA L) (stOf k h) = some o ∧ loop (stepB L) (stOf k h) = some o ∧ lenient L.length o
  | 0, k, h, hk, ho => by
    have h1 : stepA L (stOf k h) = some (.inr (.inl (stOf k h).2)) := by
      unfold stepA stOf m_plog_Load_s2; rw [if_neg (by simp only; omega)]
    have h2 : stepB L (stOf k h) = some (.inr (.inl (stOf k h).2)) := by
      unfold stepB stOf m_ref11_Load_s2; rw [if_neg (by simp only; omega)]
    rw [loop_unfold (stepA L), h1, loop_unfold (stepB L), h2]
    refine ⟨.inl (stOf k h).2, rfl, rfl, fun e he => ?_, fun z hz => by cases hz⟩
    injection he with he
    subst he
    have hk' : k = L.length := by omega
    subst hk'
    exact ho
  | d + 1, k, h, hk, ho => by
    obtain ⟨o, h1, h2, h3⟩ := loads_step L hL hs k (by omega) h ho
    rw [loop_unfold (stepA L), h1, loop_unfold (stepB L), h2]
    rcases h3 with ⟨h', rfl, ho'⟩ | rfl
    · exact loads_loop L hL hs d (k + 1) h' (by omega) ho'
    · refine ⟨.inr (zeroH, 10), rfl, rfl, ?_⟩
      exact ⟨fun (e : Int × Int × (List Int) × ByteArray × Int × Int × (List GEntry)) (he : (Sum.inr (zeroH, 10) : LOut) = .inl e) => (by cases he), fun (z : GHard × Int) (hz : (Sum.inr (zeroH, 10) : LOut) = .inr z) => by injection hz with hz; exact hz.symm⟩
theorem loads (L : List ByteArray) (hL : L.length ≤ 40) (hs : ∀ x ∈ L, x.size ≤ 400) : ∃ r : GHard × Int, m_plog_Load L = some r ∧ m_ref11_Load L = some r ∧ r.1.fVoters.length ≤ 400 ∧ r.1.fLog.fEntries.length ≤ 40 := by
  obtain ⟨o, h1, h2, h3, h4⟩ := loads_loop L hL hs L.length 0 zeroH (by omega) ⟨by decide, by decide, Nat.zero_le _, ⟨by decide, by decide⟩, Nat.zero_le _, fun e he => by cases he⟩
  have hA : loop (fun s : LSt => m_plog_Load_s2 L s.1 s.2.1 s.2.2.1 s.2.2.2.1 s.2.2.2.2.1 s.2.2.2.2.2.1 s.2.2.2.2.2.2.1 s.2.2.2.2.2.2.2) (0, 0, 0, ([] : List Int), (⟨#[]⟩ : ByteArray), 0, 0, ([] : List GEntry)) = some o := h1
  have hB : loop (fun s : LSt => m_ref11_Load_s2 L s.1 s.2.1 s.2.2.1 s.2.2.2.1 s.2.2.2.2.1 s.2.2.2.2.2.1 s.2.2.2.2.2.2.1 s.2.2.2.2.2.2.2) (0, 0, 0, ([] : List Int), (⟨#[]⟩ : ByteArray), 0, 0, ([] : List GEntry)) = some o := h2
  unfold m_plog_Load m_ref11_Load
  rw [hA, hB]
  simp only [Option.bind_some]
  rcases o with e | z
  · have ho := h3 e rfl
    simp only [Sum.elim_inl, m_plog_Load_j1, m_ref11_Load_j1]
    obtain ⟨o1, o2, o3, o4, o5, o6⟩ := ho
    have hm : modest (⟨e.2.2.2.2.1, e.2.2.2.2.2.1, e.2.2.2.2.2.2⟩ : GLog).fEntries := fun x hx => Nat.le_trans (o6 x hx) (by decide)
    rw [m_Check _ hm, m_rCheck _ hm]
    simp only [Option.bind_some]
    simp only [hardOf] at o1 o2 o3 o5
    by_cases c : checkP ⟨e.2.2.2.2.1, e.2.2.2.2.2.1, e.2.2.2.2.2.2⟩ ≠ 0
    · rw [if_pos c, if_pos c]
      exact ⟨_, rfl, rfl, Nat.zero_le _, Nat.zero_le _⟩
    rw [if_neg c, if_neg c, m_within, m_within]
    simp only [Option.bind_some]
    by_cases c1 : 1099511627776 < e.1
    · rw [if_pos c1, if_neg (by simp; omega)]
      exact ⟨_, rfl, rfl, Nat.zero_le _, Nat.zero_le _⟩
    rw [if_neg c1, if_pos (by simp; omega)]
    by_cases c2 : 1099511627776 < e.2.1
    · rw [if_pos c2, if_neg (by simp; omega)]
      exact ⟨_, rfl, rfl, Nat.zero_le _, Nat.zero_le _⟩
    rw [if_neg c2, if_pos (by simp; omega)]
    exact ⟨_, rfl, rfl, o3, Nat.le_trans o5 hL⟩
  · simp only [Sum.elim_inr]
    have hz := h4 z rfl
    subst hz
    exact ⟨_, rfl, rfl, Nat.zero_le _, Nat.zero_le _⟩
def cutR (x : ByteArray) : ByteArray := if 400 < (x.size : Int) then x.extract 0 400 else x
theorem cutR_size (x : ByteArray) : (cutR x).size ≤ 400 := by
  unfold cutR
  split
  · rw [ByteArray.size_extract]; omega
  · omega
def trimP (l : List ByteArray) : List ByteArray := (l.take 40).map cutR
theorem m_trim (l : List ByteArray) : loop (fun s => m_law11_PlogLoads_s2 l s.1 s.2) (([] : List ByteArray), 0) = some (trimP l) := by
  refine loop_run (min l.length 40) (fun k => ((l.take k).map cutR, (k : Int))) _ (by simp) (fun k hk => ?_) ?_
  · show m_law11_PlogLoads_s2 l _ _ = _
    unfold m_law11_PlogLoads_s2
    have hk1 : k < l.length := by omega
    have ht : (l.take (k + 1)).map cutR = (l.take k).map cutR ++ [cutR l[k]] := by
      rw [List.take_succ_eq_append_getElem hk1, List.map_append]; rfl
    have happ : ∀ e, app 16 ((l.take k).map cutR) [e] = some ((l.take k).map cutR ++ [e]) := fun e => app_of (by simp only [List.length_map, List.length_take, List.length_cons, List.length_nil]; omega)
    rw [if_pos (by omega), if_pos (by omega), at_nat hk1]
    simp only [Option.bind_some]
    rw [ht]
    generalize hx : l[k] = x
    by_cases c : 400 < (x.size : Int)
    · rw [if_pos c, show cutR x = x.extract 0 400 from if_pos c]
      unfold scutHi
      rw [if_pos (by omega)]
      simp only [Option.bind_some, m_law11_PlogLoads_j3]
      rw [happ, w64_id (by omega) (by omega)]
      rfl
    · rw [if_neg c, show cutR x = x from if_neg c]
      simp only [m_law11_PlogLoads_j3]
      rw [happ, w64_id (by omega) (by omega)]
      rfl
  · show m_law11_PlogLoads_s2 l _ _ = _
    unfold m_law11_PlogLoads_s2 trimP
    by_cases c : ((min l.length 40 : Nat) : Int) < l.length
    · rw [if_pos c, if_neg (by omega), Nat.min_eq_right (by omega)]
    · rw [if_neg c, List.take_of_length_le (i := min l.length 40) (by omega), List.take_of_length_le (i := 40) (by omega)]
theorem q_PlogLoads (p0 : List ByteArray) (h0 : p0.length ≤ 9223372036854775807 ∧ ∀ a ∈ p0, a.size ≤ 9223372036854775807) : m_law11_PlogLoads p0 = some true := by
  unfold m_law11_PlogLoads
  rw [awake11, m_trim]
  simp only [Option.bind_some, m_law11_PlogLoads_j1]
  obtain ⟨r, h1, h2, h3, h4⟩ := loads (trimP p0) (by simp [trimP]; omega) (fun x hx => by
    obtain ⟨y, _, rfl⟩ := List.mem_map.1 hx
    exact cutR_size y)
  rw [h1, h2]
  simp only [Option.bind_some]
  rw [m_SameH _ (by omega) (by omega)]
  simp

end Go.Proofs.Ytildknbbpkbkeaa
