import Derived.Test.YtoglbdaagfoddaaKRN
set_option linter.unusedVariables false
set_option linter.unusedSimpArgs false
set_option maxRecDepth 16384
namespace Go.Proofs.Ytoglbdaagfoddaa
open Go.RowKit
/-- May a number stand at k in a list of voters? -/
def good (l : List Int) (k : Nat) : Prop := 0 ≤ l.getD k 0 ∧ l.getD k 0 < 64 ∧ (0 < k → l.getD (k - 1) 0 < l.getD k 0)
instance (l : List Int) (k : Nat) : Decidable (good l k) := by unfold good; infer_instance
def risingP (l : List Int) : Bool := decide (0 < l.length ∧ ∀ k, k < l.length → good l k)
theorem at_getD {l : List Int} {k : Nat} (h : k < l.length) : at_ l (k : Int) = some (l.getD k 0) := by
  rw [at_nat h, List.getD_eq_getElem?_getD, List.getElem?_eq_getElem h]; rfl
theorem rising_step (l : List Int) (k : Nat) (hl : l.length ≤ 9223372036854775807) : m_plog_rising_s2 l (k : Int) = if k < l.length then (if good l k then some (.inl ((k + 1 : Nat) : Int)) else some (.inr (.inr false))) else some (.inr (.inl ())) := by
  unfold m_plog_rising_s2
  by_cases hk : k < l.length
  · rw [if_pos (by omega), if_pos hk, at_getD hk]
    simp only [Option.bind_some]
    rw [w64_id (x := (k : Int) + 1) (by omega) (by omega)]
    by_cases h1 : l.getD k 0 < 0
    · rw [if_pos h1, if_neg (fun h => by have := h.1; omega)]
    · rw [if_neg h1]
      by_cases h2 : 64 ≤ l.getD k 0
      · rw [if_pos h2, if_neg (fun h => by have := h.2.1; omega)]
      · rw [if_neg h2]
        by_cases h3 : (0 : Int) < k
        · rw [if_pos h3, w64_id (x := (k : Int) - 1) (by omega) (by omega), show (k : Int) - 1 = ((k - 1 : Nat) : Int) by omega, at_getD (by omega)]
          simp only [Option.bind_some]
          by_cases h4 : l.getD k 0 ≤ l.getD (k - 1) 0
          · rw [if_pos h4, if_neg (fun h => by have := h.2.2 (by omega); omega)]
          · rw [if_neg h4, if_pos ⟨by omega, by omega, fun _ => by omega⟩]; rfl
        · rw [if_neg h3, if_pos ⟨by omega, by omega, fun _ => by omega⟩]; rfl
  · rw [if_neg (by omega), if_neg hk]
theorem m_rising (l : List Int) (hl : l.length ≤ 9223372036854775807) : m_plog_rising l = some (risingP l) := by
  unfold m_plog_rising
  by_cases hg : ∀ k, k < l.length → good l k
  · have hL : loop (fun s => m_plog_rising_s2 l s) 0 = some (.inl ()) := loop_run l.length (fun k => (k : Int)) _ rfl (fun k hk => by rw [rising_step l k hl, if_pos hk, if_pos (hg k hk)]) (by rw [rising_step l _ hl, if_neg (by omega)])
    rw [hL]
    simp only [Option.bind_some, Sum.elim_inl, m_plog_rising_j1, risingP, Option.some.injEq, decide_eq_decide]
    constructor
    · intro h; exact ⟨by omega, hg⟩
    · intro h; omega
  · obtain ⟨n, hn, hng, hgo⟩ := first_not hg
    have hL : loop (fun s => m_plog_rising_s2 l s) 0 = some (.inr false) := loop_run n (fun k => (k : Int)) _ rfl (fun k hk => by rw [rising_step l k hl, if_pos (by omega), if_pos (hgo k hk)]) (by rw [rising_step l _ hl, if_pos hn, if_neg hng])
    rw [hL]
    simp only [Option.bind_some, Sum.elim_inr, risingP, Option.some.injEq]
    exact (decide_eq_false (fun h => hng (h.2 n hn))).symm
def listP (s : ByteArray) : List Int × Bool := if risingP (bytesI s) then (bytesI s, true) else ([], false)
theorem m_List (s : ByteArray) (hs : s.size ≤ 17592186044416) : m_plog_List s = some (listP s) := by
  unfold m_plog_List
  have hstep : ∀ k, k < s.size → m_plog_List_s2 s ((bytesI s).take k) (k : Int) = some (.inl ((bytesI s).take (k + 1), ((k + 1 : Nat) : Int))) := by
    intro k hk
    unfold m_plog_List_s2
    rw [if_pos (by omega), sat_of (by omega) (by omega)]
    simp only [Option.bind_some]
    have hb := byteAt_lt s k
    rw [w64_id (x := byteAt s k) (by omega) (by omega), app_of (by simp [bytesI_length]; omega)]
    simp only [Option.bind_some]
    rw [w64_id (x := (k : Int) + 1) (by omega) (by omega), List.take_succ_eq_append_getElem (by rw [bytesI_length]; exact hk), bytesI_get s k hk]
    rfl
  have hL : loop (fun x => m_plog_List_s2 s x.1 x.2) (([] : List Int), 0) = some (bytesI s) := loop_run s.size (fun k => ((bytesI s).take k, (k : Int))) _ rfl (fun k hk => hstep k hk) (by
    show m_plog_List_s2 s ((bytesI s).take s.size) (s.size : Int) = _
    unfold m_plog_List_s2
    rw [if_neg (by omega), List.take_of_length_le (by rw [bytesI_length]; exact Nat.le_refl _)])
  rw [hL]
  simp only [Option.bind_some, m_plog_List_j1]
  rw [m_rising _ (by rw [bytesI_length]; omega)]
  simp only [Option.bind_some, listP]
  cases risingP (bytesI s) <;> simp
theorem m_rList (s : ByteArray) (hs : s.size ≤ 17592186044416) : m_ref11_List s = some (listP s) := by
  unfold m_ref11_List
  have hat : ∀ k, k < s.size → byteAt s k = (bytesI s).getD k 0 := fun k hk => by
    rw [List.getD_eq_getElem?_getD, List.getElem?_eq_getElem (by rw [bytesI_length]; exact hk), Option.getD_some, bytesI_get s k hk]
  have hstep : ∀ k, k < s.size → m_ref11_List_s2 s ((bytesI s).take k) (k : Int) = if good (bytesI s) k then some (.inl ((bytesI s).take (k + 1), ((k + 1 : Nat) : Int))) else some (.inr (.inr ([], false))) := by
    intro k hk
    unfold m_ref11_List_s2
    simp only [m_ref11_List_j3]
    have hb := byteAt_lt s k
    have e1 := hat k hk
    have ht : (bytesI s).take (k + 1) = (bytesI s).take k ++ [byteAt s k] := by rw [List.take_succ_eq_append_getElem (by rw [bytesI_length]; exact hk), bytesI_get s k hk]
    have happ : app 8 ((bytesI s).take k) [w64 (byteAt s k)] = some ((bytesI s).take (k + 1)) := by
      rw [w64_id (x := byteAt s k) (by omega) (by omega), app_of (by simp [bytesI_length]; omega), ht]
    rw [if_pos (by omega), sat_of (by omega) (by omega)]
    simp only [Option.bind_some]
    rw [w64_id (x := (k : Int) + 1) (by omega) (by omega)]
    by_cases h2 : 63 < byteAt s k
    · rw [if_pos h2, if_neg (fun h => by have := h.2.1; omega)]
    · rw [if_neg h2]
      by_cases h3 : (0 : Int) < k
      · rw [if_pos h3, w64_id (x := (k : Int) - 1) (by omega) (by omega), show (k : Int) - 1 = ((k - 1 : Nat) : Int) by omega, sat_of (i := ((k - 1 : Nat) : Int)) (by omega) (by omega)]
        simp only [Option.bind_some]
        have e2 := hat (k - 1) (by omega)
        by_cases h4 : byteAt s k ≤ byteAt s ((k - 1 : Nat) : Int)
        · rw [if_pos h4, if_neg (fun h => by have := h.2.2 (by omega); omega)]
        · rw [if_neg h4, happ, if_pos ⟨by omega, by omega, fun _ => by omega⟩]; rfl
      · rw [if_neg h3, happ, if_pos ⟨by omega, by omega, fun _ => by omega⟩]; rfl
  have hend : m_ref11_List_s2 s ((bytesI s).take s.size) (s.size : Int) = some (.inr (.inl (bytesI s))) := by
    unfold m_ref11_List_s2
    rw [if_neg (by omega), List.take_of_length_le (by rw [bytesI_length]; exact Nat.le_refl _)]
  by_cases hg : ∀ k, k < s.size → good (bytesI s) k
  · have hL : loop (fun x => m_ref11_List_s2 s x.1 x.2) (([] : List Int), 0) = some (.inl (bytesI s)) := loop_run s.size (fun k => ((bytesI s).take k, (k : Int))) _ rfl (fun k hk => by show m_ref11_List_s2 s _ _ = _; rw [hstep k hk, if_pos (hg k hk)]) hend
    rw [hL]
    simp only [Option.bind_some, Sum.elim_inl, m_ref11_List_j1, listP]
    by_cases h0 : 0 < s.size
    · rw [if_pos (show risingP (bytesI s) = true from decide_eq_true ⟨by rw [bytesI_length]; exact h0, fun k hk => hg k (by rw [bytesI_length] at hk; exact hk)⟩), decide_eq_true (by omega)]
    · rw [if_neg (by simp only [risingP, decide_eq_true_eq, bytesI_length]; omega), decide_eq_false (by omega)]
      rw [show bytesI s = [] from List.eq_nil_of_length_eq_zero (by rw [bytesI_length]; omega)]
  · obtain ⟨n, hn, hng, hgo⟩ := first_not hg
    have hL : loop (fun x => m_ref11_List_s2 s x.1 x.2) (([] : List Int), 0) = some (.inr ([], false)) := loop_run n (fun k => ((bytesI s).take k, (k : Int))) _ rfl (fun k hk => by show m_ref11_List_s2 s _ _ = _; rw [hstep k (by omega), if_pos (hgo k hk)]) (by show m_ref11_List_s2 s _ _ = _; rw [hstep n hn, if_neg hng])
    rw [hL]
    simp only [Option.bind_some, Sum.elim_inr, listP]
    rw [if_neg (by simp only [risingP, decide_eq_true_eq]; intro h; exact hng (h.2 n (by rw [bytesI_length]; exact hn)))]
/-! ### Logs -/
theorem m_within (n : Int) : m_plog_within n = some (decide (0 ≤ n ∧ n ≤ 1099511627776)) := by
  unfold m_plog_within
  by_cases h : 0 ≤ n
  · rw [if_pos h]; simp [h]
  · rw [if_neg h]; simp [h]
/-- May an entry stand behind one of term t? -/
def entG (t : Int) (e : GEntry) : Prop := t ≤ e.fTerm ∧ (0 ≤ e.fTerm ∧ e.fTerm ≤ 1099511627776) ∧ 0 ≤ e.fKind ∧ e.fKind ≤ 2 ∧ e.fData.size ≤ 8000 ∧ (e.fKind = 1 → risingP (bytesI e.fData) = true)
instance (t : Int) (e : GEntry) : Decidable (entG t e) := by unfold entG; infer_instance
def zeroE : GEntry := ⟨0, 0, ⟨#[]⟩⟩
/-- The term ahead of the k-th entry. -/
def before (t : Int) (l : List GEntry) (k : Nat) : Int := if k = 0 then t else (l.getD (k - 1) zeroE).fTerm
theorem before_succ (t : Int) (l : List GEntry) (k : Nat) : before t l (k + 1) = (l.getD k zeroE).fTerm := by simp [before]
theorem at_getE {l : List GEntry} {k : Nat} (h : k < l.length) : at_ l (k : Int) = some (l.getD k zeroE) := by
  rw [at_nat h, List.getD_eq_getElem?_getD, List.getElem?_eq_getElem h]; rfl
def checkP (l : GLog) : Int := if (0 ≤ l.fBase ∧ l.fBase ≤ 1099511627776) ∧ (0 ≤ l.fBaseTerm ∧ l.fBaseTerm ≤ 1099511627776) ∧ l.fEntries.length ≤ 100000 ∧ ∀ k, k < l.fEntries.length → entG (before l.fBaseTerm l.fEntries k) (l.fEntries.getD k zeroE) then 0 else 1
/-- Texts that may be read whole. -/
def modest (l : List GEntry) : Prop := ∀ e ∈ l, e.fData.size ≤ 17592186044416
theorem modest_at {l : List GEntry} (h : modest l) (k : Nat) (hk : k < l.length) : (l.getD k zeroE).fData.size ≤ 17592186044416 := by
  rw [List.getD_eq_getElem?_getD, List.getElem?_eq_getElem hk]; exact h _ (List.getElem_mem hk)
theorem listP_snd (s : ByteArray) : (listP s).2 = risingP (bytesI s) := by unfold listP; split <;> simp_all
theorem check_step (l : GLog) (k : Nat) (hm : modest l.fEntries) (hl : l.fEntries.length ≤ 100000) : m_plog_Check_s2 l (before l.fBaseTerm l.fEntries k) (k : Int) = if k < l.fEntries.length then (if entG (before l.fBaseTerm l.fEntries k) (l.fEntries.getD k zeroE) then some (.inl (before l.fBaseTerm l.fEntries (k + 1), ((k + 1 : Nat) : Int))) else some (.inr (.inr 1))) else some (.inr (.inl ())) := by
  unfold m_plog_Check_s2
  by_cases hk : k < l.fEntries.length
  · rw [if_pos (by omega), if_pos hk, at_getE hk]
    have hmk := modest_at hm k hk
    rw [before_succ]
    generalize l.fEntries.getD k zeroE = e at *
    simp only [Option.bind_some, m_within, m_List _ hmk]
    rw [w64_id (x := (k : Int) + 1) (by omega) (by omega)]
    have hs := listP_snd e.fData
    generalize listP e.fData = z at *
    generalize before l.fBaseTerm l.fEntries k = t at *
    have hd : (0 : Int) ≤ (e.fData.size : Int) := Int.natCast_nonneg _
    by_cases c1 : e.fTerm < t
    · rw [if_pos c1, if_neg (fun h : entG t e => by have := h.1; omega)]
    · rw [if_neg c1]
      by_cases c2 : 0 ≤ e.fTerm ∧ e.fTerm ≤ 1099511627776
      · rw [if_pos (by simpa using c2)]
        by_cases c3 : e.fKind < 0
        · rw [if_pos c3, if_neg (fun h : entG t e => by have := h.2.2.1; omega)]
        · rw [if_neg c3]
          by_cases c4 : 2 < e.fKind
          · rw [if_pos c4, if_neg (fun h : entG t e => by have := h.2.2.2.1; omega)]
          · rw [if_neg c4]
            by_cases c5 : 8000 < (e.fData.size : Int)
            · rw [if_pos c5, if_neg (fun h : entG t e => by have := h.2.2.2.2.1; omega)]
            · rw [if_neg c5]
              by_cases c6 : e.fKind = 1
              · rw [if_pos c6]
                by_cases c7 : z.2 = true
                · rw [if_pos c7, if_pos (show entG t e from ⟨by omega, c2, by omega, by omega, by omega, fun _ => by rw [← hs, c7]⟩)]; rfl
                · rw [if_neg c7, if_neg (fun h : entG t e => c7 (by rw [hs]; exact h.2.2.2.2.2 c6))]
              · rw [if_neg c6, if_pos (show entG t e from ⟨by omega, c2, by omega, by omega, by omega, fun h => absurd h c6⟩)]; rfl
      · rw [if_neg (by simpa using c2), if_neg (fun h : entG t e => c2 h.2.1)]
  · rw [if_neg (by omega), if_neg hk]
theorem rcheck_step (l : GLog) (k : Nat) (hm : modest l.fEntries) (hl : l.fEntries.length ≤ 100000) (h0 : 0 ≤ before l.fBaseTerm l.fEntries k) : m_ref11_Check_s2 l (before l.fBaseTerm l.fEntries k) (k : Int) = if k < l.fEntries.length then (if entG (before l.fBaseTerm l.fEntries k) (l.fEntries.getD k zeroE) then some (.inl (before l.fBaseTerm l.fEntries (k + 1), ((k + 1 : Nat) : Int))) else some (.inr (.inr 1))) else some (.inr (.inl ())) := by
  unfold m_ref11_Check_s2
  by_cases hk : k < l.fEntries.length
  · rw [if_pos (by omega), if_pos hk, at_getE hk]
    have hmk := modest_at hm k hk
    rw [before_succ]
    generalize l.fEntries.getD k zeroE = e at *
    simp only [Option.bind_some, m_rList _ hmk]
    rw [w64_id (x := (k : Int) + 1) (by omega) (by omega)]
    have hs := listP_snd e.fData
    generalize listP e.fData = z at *
    generalize before l.fBaseTerm l.fEntries k = t at *
    have hd : (0 : Int) ≤ (e.fData.size : Int) := Int.natCast_nonneg _
    by_cases c1 : e.fTerm < t
    · rw [if_pos c1, if_neg (fun h : entG t e => by have := h.1; omega)]
    · rw [if_neg c1]
      by_cases c2 : 1099511627776 < e.fTerm
      · rw [if_pos c2, if_neg (fun h : entG t e => by have := h.2.1; omega)]
      · rw [if_neg c2]
        by_cases c3 : e.fKind < 0
        · rw [if_pos c3, if_neg (fun h : entG t e => by have := h.2.2.1; omega)]
        · rw [if_neg c3]
          by_cases c4 : 2 < e.fKind
          · rw [if_pos c4, if_neg (fun h : entG t e => by have := h.2.2.2.1; omega)]
          · rw [if_neg c4]
            by_cases c5 : 8000 < (e.fData.size : Int)
            · rw [if_pos c5, if_neg (fun h : entG t e => by have := h.2.2.2.2.1; omega)]
            · rw [if_neg c5]
              by_cases c6 : e.fKind = 1
              · rw [if_pos c6]
                by_cases c7 : z.2 = true
                · rw [if_pos c7, if_pos (show entG t e from ⟨by omega, by omega, by omega, by omega, by omega, fun _ => by rw [← hs, c7]⟩)]; rfl
                · rw [if_neg c7, if_neg (fun h : entG t e => c7 (by rw [hs]; exact h.2.2.2.2.2 c6))]
              · rw [if_neg c6, if_pos (show entG t e from ⟨by omega, by omega, by omega, by omega, by omega, fun h => absurd h c6⟩)]; rfl
  · rw [if_neg (by omega), if_neg hk]
theorem before_pos {t : Int} {l : List GEntry} {k : Nat} (h0 : 0 ≤ t) (hg : ∀ j, j < k → entG (before t l j) (l.getD j zeroE)) : 0 ≤ before t l k := by
  cases k with
  | zero => simpa [before] using h0
  | succ k => rw [before_succ]; exact (hg k (by omega)).2.1.1
theorem m_Check (l : GLog) (hm : modest l.fEntries) : m_plog_Check l = some (checkP l) := by
  unfold m_plog_Check checkP
  simp only [m_within, Option.bind_some]
  by_cases c1 : 0 ≤ l.fBase ∧ l.fBase ≤ 1099511627776
  · rw [if_pos (by simpa using c1)]
    by_cases c2 : 0 ≤ l.fBaseTerm ∧ l.fBaseTerm ≤ 1099511627776
    · rw [if_pos (by simpa using c2)]
      by_cases c3 : 100000 < (l.fEntries.length : Int)
      · rw [if_pos c3, if_neg (fun h => by have := h.2.2.1; omega)]
      · rw [if_neg c3]
        have hl : l.fEntries.length ≤ 100000 := by omega
        by_cases hg : ∀ k, k < l.fEntries.length → entG (before l.fBaseTerm l.fEntries k) (l.fEntries.getD k zeroE)
        · have hL : loop (fun s => m_plog_Check_s2 l s.1 s.2) (l.fBaseTerm, 0) = some (.inl ()) := loop_run l.fEntries.length (fun k => (before l.fBaseTerm l.fEntries k, (k : Int))) _ rfl (fun k hk => by show m_plog_Check_s2 l _ _ = _; rw [check_step l k hm hl, if_pos hk, if_pos (hg k hk)]) (by show m_plog_Check_s2 l _ _ = _; rw [check_step l _ hm hl, if_neg (by omega)])
          rw [hL, if_pos ⟨c1, c2, hl, hg⟩]
          rfl
        · obtain ⟨n, hn, hng, hgo⟩ := first_not hg
          have hL : loop (fun s => m_plog_Check_s2 l s.1 s.2) (l.fBaseTerm, 0) = some (.inr 1) := loop_run n (fun k => (before l.fBaseTerm l.fEntries k, (k : Int))) _ rfl (fun k hk => by show m_plog_Check_s2 l _ _ = _; rw [check_step l k hm hl, if_pos (by omega), if_pos (hgo k hk)]) (by show m_plog_Check_s2 l _ _ = _; rw [check_step l _ hm hl, if_pos hn, if_neg hng])
          rw [hL, if_neg (fun h => hng (h.2.2.2 n hn))]
          rfl
    · rw [if_neg (by simpa using c2), if_neg (fun h => c2 h.2.1)]
  · rw [if_neg (by simpa using c1), if_neg (fun h => c1 h.1)]
theorem m_rCheck (l : GLog) (hm : modest l.fEntries) : m_ref11_Check l = some (checkP l) := by
  unfold m_ref11_Check checkP
  by_cases a1 : l.fBase < 0
  · rw [if_pos a1, if_neg (fun h => by have := h.1; omega)]
  rw [if_neg a1]
  by_cases a2 : 1099511627776 < l.fBase
  · rw [if_pos a2, if_neg (fun h => by have := h.1; omega)]
  rw [if_neg a2]
  by_cases a3 : l.fBaseTerm < 0
  · rw [if_pos a3, if_neg (fun h => by have := h.2.1; omega)]
  rw [if_neg a3]
  by_cases a4 : 1099511627776 < l.fBaseTerm
  · rw [if_pos a4, if_neg (fun h => by have := h.2.1; omega)]
  rw [if_neg a4]
  by_cases c3 : 100000 < (l.fEntries.length : Int)
  · rw [if_pos c3, if_neg (fun h => by have := h.2.2.1; omega)]
  rw [if_neg c3]
  have hl : l.fEntries.length ≤ 100000 := by omega
  by_cases hg : ∀ k, k < l.fEntries.length → entG (before l.fBaseTerm l.fEntries k) (l.fEntries.getD k zeroE)
  · have hL : loop (fun s => m_ref11_Check_s2 l s.1 s.2) (l.fBaseTerm, 0) = some (.inl ()) := loop_run l.fEntries.length (fun k => (before l.fBaseTerm l.fEntries k, (k : Int))) _ rfl (fun k hk => by show m_ref11_Check_s2 l _ _ = _; rw [rcheck_step l k hm hl (before_pos (by omega) fun j hj => hg j (by omega)), if_pos hk, if_pos (hg k hk)]) (by show m_ref11_Check_s2 l _ _ = _; rw [rcheck_step l _ hm hl (before_pos (by omega) fun j hj => hg j (by omega)), if_neg (by omega)])
    rw [hL, if_pos ⟨by omega, by omega, hl, hg⟩]
    rfl
  · obtain ⟨n, hn, hng, hgo⟩ := first_not hg
    have hL : loop (fun s => m_ref11_Check_s2 l s.1 s.2) (l.fBaseTerm, 0) = some (.inr 1) := loop_run n (fun k => (before l.fBaseTerm l.fEntries k, (k : Int))) _ rfl (fun k hk => by show m_ref11_Check_s2 l _ _ = _; rw [rcheck_step l k hm hl (before_pos (by omega) fun j hj => hgo j (by omega)), if_pos (by omega), if_pos (hgo k hk)]) (by show m_ref11_Check_s2 l _ _ = _; rw [rcheck_step l _ hm hl (before_pos (by omega) fun j hj => hgo j (by omega)), if_pos hn, if_neg hng])
    rw [hL, if_neg (fun h => hng (h.2.2.2 n hn))]
    rfl
/-! ### What is asked of a log -/
/-- How many entries lie ahead of index i. -/
def ahead (l : GLog) (i : Int) : Nat := (i - l.fBase - 1).toNat
open Go.RowKit
/-! ### Bytes -/
/-! ### Numbers read -/
theorem right_step (l : List Int) (k : Nat) (hl : l.length ≤ 9223372036854775807) : m_ref11_Right_s2 l (k : Int) = if k < l.length then (if good l k then some (.inl ((k + 1 : Nat) : Int)) else some (.inr (.inr false))) else some (.inr (.inl ())) := by
  unfold m_ref11_Right_s2
  by_cases hk : k < l.length
  · rw [if_pos (by omega), if_pos hk, at_getD hk]
    simp only [Option.bind_some]
    rw [w64_id (x := (k : Int) + 1) (by omega) (by omega)]
    by_cases h1 : l.getD k 0 < 0
    · rw [if_pos h1, if_neg (fun h => by have := h.1; omega)]
    · rw [if_neg h1]
      by_cases h2 : 63 < l.getD k 0
      · rw [if_pos h2, if_neg (fun h => by have := h.2.1; omega)]
      · rw [if_neg h2]
        by_cases h3 : (0 : Int) < k
        · rw [if_pos h3, w64_id (x := (k : Int) - 1) (by omega) (by omega), show (k : Int) - 1 = ((k - 1 : Nat) : Int) by omega, at_getD (by omega)]
          simp only [Option.bind_some]
          by_cases h4 : l.getD k 0 ≤ l.getD (k - 1) 0
          · rw [if_pos h4, if_neg (fun h => by have := h.2.2 (by omega); omega)]
          · rw [if_neg h4, if_pos ⟨by omega, by omega, fun _ => by omega⟩]; rfl
        · rw [if_neg h3, if_pos ⟨by omega, by omega, fun _ => by omega⟩]; rfl
  · rw [if_neg (by omega), if_neg hk]
theorem m_Right (l : List Int) (hl : l.length ≤ 9223372036854775807) : m_ref11_Right l = some (risingP l) := by
  unfold m_ref11_Right
  by_cases hg : ∀ k, k < l.length → good l k
  · have hL : loop (fun s => m_ref11_Right_s2 l s) 0 = some (.inl ()) := loop_run l.length (fun k => (k : Int)) _ rfl (fun k hk => by rw [right_step l k hl, if_pos hk, if_pos (hg k hk)]) (by rw [right_step l _ hl, if_neg (by omega)])
    rw [hL]
    simp only [Option.bind_some, Sum.elim_inl, m_ref11_Right_j1, risingP, Option.some.injEq, decide_eq_decide]
    constructor
    · intro h; exact ⟨by omega, hg⟩
    · intro h; omega
  · obtain ⟨n, hn, hng, hgo⟩ := first_not hg
    have hL : loop (fun s => m_ref11_Right_s2 l s) 0 = some (.inr false) := loop_run n (fun k => (k : Int)) _ rfl (fun k hk => by rw [right_step l k hl, if_pos (by omega), if_pos (hgo k hk)]) (by rw [right_step l _ hl, if_pos hn, if_neg hng])
    rw [hL]
    simp only [Option.bind_some, Sum.elim_inr, risingP, Option.some.injEq]
    exact (decide_eq_false (fun h => hng (h.2 n hn))).symm
open Go.RowKit
theorem awake12 : m_law12_awake = some true := by decide +kernel
/-! ### What is in a list of numbers -/
theorem m_Index_has (l : List Int) (v : Int) (hl : l.length ≤ 1000000) : ∃ x, m_slices_Index_56 l v = some x ∧ (0 ≤ x ↔ v ∈ l) := by
  unfold m_slices_Index_56
  have hstep : ∀ k, k < l.length → m_slices_Index_56_s2 l v (k : Int) = if v = l.getD k 0 then some (.inr (.inr (k : Int))) else some (.inl ((k + 1 : Nat) : Int)) := fun k hk => by
    unfold m_slices_Index_56_s2
    rw [if_pos (by omega), at_getD hk, w64_id (x := (k : Int) + 1) (by omega) (by omega)]
    rfl
  have hend : m_slices_Index_56_s2 l v (l.length : Int) = some (.inr (.inl ())) := by unfold m_slices_Index_56_s2; rw [if_neg (by omega)]
  by_cases hg : ∀ k, k < l.length → ¬ v = l.getD k 0
  · have hL : loop (fun s => m_slices_Index_56_s2 l v s) 0 = some (.inl ()) := loop_run l.length (fun k => (k : Int)) _ rfl (fun k hk => by rw [hstep k hk, if_neg (hg k hk)]) hend
    rw [hL]
    refine ⟨-1, rfl, fun h => absurd h (by decide), fun h => ?_⟩
    obtain ⟨k, hk, e⟩ := List.getElem_of_mem h
    exact absurd (by rw [List.getD_eq_getElem?_getD, List.getElem?_eq_getElem hk]; exact e.symm) (hg k hk)
  · obtain ⟨n, hn, hng, hgo⟩ := first_not hg
    have hL : loop (fun s => m_slices_Index_56_s2 l v s) 0 = some (.inr (n : Int)) := loop_run n (fun k => (k : Int)) _ rfl (fun k hk => by rw [hstep k (by omega), if_neg (hgo k hk)]) (by rw [hstep n hn, if_pos (Classical.not_not.1 hng)])
    rw [hL]
    refine ⟨n, rfl, fun _ => ?_, fun _ => by omega⟩
    rw [Classical.not_not.1 hng, List.getD_eq_getElem?_getD, List.getElem?_eq_getElem hn]
    exact List.getElem_mem hn
theorem m_Contains (l : List Int) (v : Int) (hl : l.length ≤ 1000000) : m_slices_Contains_35 l v = some (decide (v ∈ l)) := by
  obtain ⟨x, h1, h2⟩ := m_Index_has l v hl
  unfold m_slices_Contains_35
  rw [h1]
  simp only [Option.bind_some, Option.some.injEq, decide_eq_decide]
  exact h2
theorem m_in (l : List Int) (v : Int) (hl : l.length ≤ 1000000) : m_ref12_in l v = some (decide (v ∈ l)) := by
  unfold m_ref12_in
  have hstep : ∀ k, k < l.length → m_ref12_in_s2 l v (k : Int) = if l.getD k 0 = v then some (.inr (.inr true)) else some (.inl ((k + 1 : Nat) : Int)) := fun k hk => by
    unfold m_ref12_in_s2
    rw [if_pos (by omega), at_getD hk, w64_id (x := (k : Int) + 1) (by omega) (by omega)]
    rfl
  have hend : m_ref12_in_s2 l v (l.length : Int) = some (.inr (.inl ())) := by unfold m_ref12_in_s2; rw [if_neg (by omega)]
  by_cases hg : ∀ k, k < l.length → ¬ l.getD k 0 = v
  · have hL : loop (fun s => m_ref12_in_s2 l v s) 0 = some (.inl ()) := loop_run l.length (fun k => (k : Int)) _ rfl (fun k hk => by rw [hstep k hk, if_neg (hg k hk)]) hend
    rw [hL]
    have : v ∉ l := fun h => by
      obtain ⟨k, hk, e⟩ := List.getElem_of_mem h
      exact absurd (by rw [List.getD_eq_getElem?_getD, List.getElem?_eq_getElem hk]; exact e) (hg k hk)
    simp [this, m_ref12_in_j1]
  · obtain ⟨n, hn, hng, hgo⟩ := first_not hg
    have hL : loop (fun s => m_ref12_in_s2 l v s) 0 = some (.inr true) := loop_run n (fun k => (k : Int)) _ rfl (fun k hk => by rw [hstep k (by omega), if_neg (hgo k hk)]) (by rw [hstep n hn, if_pos (Classical.not_not.1 hng)])
    rw [hL]
    have : v ∈ l := by
      rw [← Classical.not_not.1 hng, List.getD_eq_getElem?_getD, List.getElem?_eq_getElem hn]
      exact List.getElem_mem hn
    simp [this]
def majP (l w : List Int) : Bool := decide (l.length < 2 * (l.countP fun v => decide (v ∈ w)))
theorem count_take (l : List Int) (p : Int → Bool) (k : Nat) (hk : k < l.length) : ((l.take (k + 1)).countP p : Int) = if p (l.getD k 0) = true then ((l.take k).countP p : Int) + 1 else (l.take k).countP p := by
  rw [List.take_succ_eq_append_getElem hk, List.countP_append, List.getD_eq_getElem?_getD, List.getElem?_eq_getElem hk]
  simp only [Option.getD_some, List.countP_cons, List.countP_nil]
  split <;> simp
theorem m_Majority (l w : List Int) (hl : l.length ≤ 1000000) (hw : w.length ≤ 1000000) : m_raft_Majority l w = some (majP l w) := by
  unfold m_raft_Majority
  have hb : ∀ k, (l.take k).countP (fun v => decide (v ∈ w)) ≤ l.length := fun k => Nat.le_trans List.countP_le_length (by simp; omega)
  have hL : loop (fun s => m_raft_Majority_s2 l w s.1 s.2) (0, 0) = some ((l.countP fun v => decide (v ∈ w) : Nat) : Int) := by
    refine loop_run l.length (fun k => ((((l.take k).countP fun v => decide (v ∈ w) : Nat) : Int), (k : Int))) _ rfl (fun k hk => ?_) ?_
    · show m_raft_Majority_s2 l w _ _ = _
      unfold m_raft_Majority_s2
      have := hb k
      rw [if_pos (by omega), at_getD hk]
      simp only [Option.bind_some]
      rw [m_Contains w _ hw, w64_id (x := (k : Int) + 1) (by omega) (by omega)]
      simp only [Option.bind_some]
      rw [count_take l _ k hk]
      rw [w64_id (x := ((l.take k).countP _ : Int) + 1) (by omega) (by omega)]
      by_cases c : l.getD k 0 ∈ w
      · rw [if_pos (by simpa using c), if_pos (by simpa using c)]; rfl
      · rw [if_neg (by simpa using c), if_neg (by simpa using c)]; rfl
    · show m_raft_Majority_s2 l w _ _ = _
      unfold m_raft_Majority_s2
      rw [if_neg (by omega), List.take_length]
  rw [hL]
  have := hb l.length
  rw [List.take_length] at this
  simp only [Option.bind_some, m_raft_Majority_j1, majP]
  rw [w64_id (by omega) (by omega)]
  simp only [Option.some.injEq, decide_eq_decide]
  omega
theorem m_rMajority (l w : List Int) (hl : l.length ≤ 1000000) (hw : w.length ≤ 1000000) : m_ref12_Majority l w = some (majP l w) := by
  unfold m_ref12_Majority
  have hb : ∀ k, (l.take k).countP (fun v => decide (v ∈ w)) ≤ l.length := fun k => Nat.le_trans List.countP_le_length (by simp; omega)
  have hL : loop (fun s => m_ref12_Majority_s2 l w s.1 s.2) (0, 0) = some ((l.countP fun v => decide (v ∈ w) : Nat) : Int) := by
    refine loop_run l.length (fun k => ((((l.take k).countP fun v => decide (v ∈ w) : Nat) : Int), (k : Int))) _ rfl (fun k hk => ?_) ?_
    · show m_ref12_Majority_s2 l w _ _ = _
      unfold m_ref12_Majority_s2
      have := hb k
      rw [if_pos (by omega), at_getD hk]
      simp only [Option.bind_some]
      rw [m_in w _ hw, w64_id (x := (k : Int) + 1) (by omega) (by omega)]
      simp only [Option.bind_some]
      rw [count_take l _ k hk]
      rw [w64_id (x := ((l.take k).countP _ : Int) + 1) (by omega) (by omega)]
      by_cases c : l.getD k 0 ∈ w
      · rw [if_pos (by simpa using c), if_pos (by simpa using c)]; rfl
      · rw [if_neg (by simpa using c), if_neg (by simpa using c)]; rfl
    · show m_ref12_Majority_s2 l w _ _ = _
      unfold m_ref12_Majority_s2
      rw [if_neg (by omega), List.take_length]
  rw [hL]
  have := hb l.length
  rw [List.take_length] at this
  simp only [Option.bind_some, m_ref12_Majority_j1, majP]
  rw [w64_id (by omega) (by omega)]
  simp only [Option.some.injEq, decide_eq_decide]
  omega
/-! ### Notes that may be -/
/-- What is asked of a note's head. -/
def headP (n : GNote) : Prop := (1 ≤ n.fKind ∧ n.fKind ≤ 5) ∧ (0 ≤ n.fFrom ∧ n.fFrom < 64) ∧ (0 ≤ n.fTo ∧ n.fTo < 64) ∧ n.fFrom ≠ n.fTo ∧ (1 ≤ n.fTerm ∧ n.fTerm ≤ 1099511627776) ∧ (0 ≤ n.fIndex ∧ n.fIndex ≤ 1099511627776) ∧ (0 ≤ n.fCommit ∧ n.fCommit ≤ 1099511627776) ∧ (0 ≤ n.fLogTerm ∧ n.fLogTerm ≤ n.fTerm) ∧ n.fEntries.length ≤ 16 ∧ n.fIndex ≤ 1099511627776 - n.fEntries.length ∧ n.fSnap.size ≤ 50000
instance (n : GNote) : Decidable (headP n) := by unfold headP; infer_instance
/-- May a note be? -/
def okNote (n : GNote) : Prop := headP n ∧ checkP ⟨n.fIndex, n.fLogTerm, n.fEntries⟩ = 0 ∧ (∀ k, k < n.fEntries.length → (n.fEntries.getD k zeroE).fTerm ≤ n.fTerm) ∧ (risingP n.fVoters = true ∨ n.fVoters = [] ∧ n.fKind ≠ 4)
instance (n : GNote) : Decidable (okNote n) := by unfold okNote; infer_instance
def noteP (n : GNote) : Int := if okNote n then 0 else 1
theorem risingP_iff {l : List Int} : risingP l = true ↔ 0 < l.length ∧ ∀ k, k < l.length → good l k := by unfold risingP; exact decide_eq_true_iff
theorem m_node (x : Int) : m_raft_node x = some (decide (0 ≤ x ∧ x < 64)) := by
  unfold m_raft_node
  by_cases h : 0 ≤ x
  · rw [if_pos h]; simp [h]
  · rw [if_neg h]; simp [h]
theorem note_step (n : GNote) (k : Nat) (hl : n.fVoters.length ≤ 1000000) : m_raft_Check_s3 n (k : Int) = if k < n.fVoters.length then (if good n.fVoters k then some (.inl ((k + 1 : Nat) : Int)) else some (.inr (.inr 1))) else some (.inr (.inl ())) := by
  unfold m_raft_Check_s3
  by_cases hk : k < n.fVoters.length
  · rw [if_pos (by omega), if_pos hk, at_getD hk]
    simp only [Option.bind_some, m_node]
    rw [w64_id (x := (k : Int) + 1) (by omega) (by omega)]
    by_cases h1 : 0 ≤ n.fVoters.getD k 0 ∧ n.fVoters.getD k 0 < 64
    · rw [if_pos (by simpa using h1)]
      by_cases h3 : (0 : Int) < k
      · rw [if_pos h3, w64_id (x := (k : Int) - 1) (by omega) (by omega), show (k : Int) - 1 = ((k - 1 : Nat) : Int) by omega, at_getD (by omega)]
        simp only [Option.bind_some]
        by_cases h4 : n.fVoters.getD k 0 ≤ n.fVoters.getD (k - 1) 0
        · rw [if_pos h4, if_neg (fun h => by have := h.2.2 (by omega); omega)]
        · rw [if_neg h4, if_pos ⟨h1.1, h1.2, fun _ => by omega⟩]; rfl
      · rw [if_neg h3, if_pos ⟨h1.1, h1.2, fun _ => by omega⟩]; rfl
    · rw [if_neg (by simpa using h1), if_neg (fun h => h1 ⟨h.1, h.2.1⟩)]
  · rw [if_neg (by omega), if_neg hk]
theorem note_voters (n : GNote) (hl : n.fVoters.length ≤ 1000000) : m_raft_Check_j1 n = some (if risingP n.fVoters = true then 0 else 1) := by
  unfold m_raft_Check_j1
  by_cases hg : ∀ k, k < n.fVoters.length → good n.fVoters k
  · have hL : loop (fun s => m_raft_Check_s3 n s) 0 = some (.inl ()) := loop_run n.fVoters.length (fun k => (k : Int)) _ rfl (fun k hk => by rw [note_step n k hl, if_pos hk, if_pos (hg k hk)]) (by rw [note_step n _ hl, if_neg (by omega)])
    rw [hL]
    simp only [Option.bind_some, Sum.elim_inl, m_raft_Check_j2]
    by_cases h0 : (n.fVoters.length : Int) = 0
    · rw [if_pos h0, if_neg (fun h => by have := (risingP_iff.1 h).1; omega)]
    · rw [if_neg h0, if_pos (risingP_iff.2 ⟨by omega, hg⟩)]
  · obtain ⟨m, hm, hng, hgo⟩ := first_not hg
    have hL : loop (fun s => m_raft_Check_s3 n s) 0 = some (.inr 1) := loop_run m (fun k => (k : Int)) _ rfl (fun k hk => by rw [note_step n k hl, if_pos (by omega), if_pos (hgo k hk)]) (by rw [note_step n _ hl, if_pos hm, if_neg hng])
    rw [hL]
    simp only [Option.bind_some, Sum.elim_inr]
    rw [if_neg (fun h => hng ((risingP_iff.1 h).2 m hm))]
theorem check_terms {l : GLog} (h : checkP l = 0) : ∀ k, k < l.fEntries.length → entG (before l.fBaseTerm l.fEntries k) (l.fEntries.getD k zeroE) := by
  unfold checkP at h
  split at h
  · rename_i h1; exact h1.2.2.2
  · cases h
theorem terms_mono {l : GLog} (h : checkP l = 0) (k : Nat) (hk : k < l.fEntries.length) : ∀ j, j ≤ k → (l.fEntries.getD j zeroE).fTerm ≤ (l.fEntries.getD k zeroE).fTerm := by
  induction k with
  | zero => intro j hj; rw [show j = 0 by omega]; exact Int.le_refl _
  | succ k ih =>
    intro j hj
    rcases Nat.lt_or_ge j (k + 1) with h1 | h1
    · have := ih (by omega) j (by omega)
      have h2 := (check_terms h (k + 1) hk).1
      rw [before_succ] at h2
      omega
    · rw [show j = k + 1 by omega]; exact Int.le_refl _
theorem checkP_or (l : GLog) : checkP l = 0 ∨ checkP l = 1 := by unfold checkP; split <;> simp
theorem m_note (n : GNote) (hm : modest n.fEntries) (hl : n.fVoters.length ≤ 1000000) (he : n.fEntries.length ≤ 1000000) : m_raft_Check n = some (noteP n) := by
  by_cases hh : headP n
  · obtain ⟨⟨a1, a2⟩, b, c, d, ⟨e1, e2⟩, ⟨f1, f2⟩, ⟨g1, g2⟩, ⟨i1, i2⟩, j1, j2, j3⟩ := id hh
    unfold m_raft_Check
    simp only [m_node, Option.bind_some]
    rw [if_neg (by omega), if_neg (by omega), if_pos (by simpa using b), if_pos (by simpa using c), if_neg d, if_neg (by omega), if_neg (by omega), if_neg (by omega), if_neg (by omega), if_neg (by omega), if_neg (by omega), if_neg (by omega), if_neg (by omega), if_neg (by omega), if_neg (by rw [w64_id (by omega) (by omega)]; omega), if_neg (by omega)]
    rw [m_Check _ hm]
    simp only [Option.bind_some]
    unfold noteP
    rcases checkP_or ⟨n.fIndex, n.fLogTerm, n.fEntries⟩ with hc | hc
    · rw [hc]
      simp only [ne_eq, not_true_eq_false, if_false]
      have hv : ∀ q : Int, (∀ k, k < n.fEntries.length → (n.fEntries.getD k zeroE).fTerm ≤ n.fTerm) → (if (n.fVoters.length : Int) = 0 then (if ¬ n.fKind = 4 then some 0 else m_raft_Check_j1 n) else m_raft_Check_j1 n) = some (if okNote n then 0 else 1) := by
        intro _ ht
        rw [note_voters n hl]
        by_cases h0 : (n.fVoters.length : Int) = 0
        · have hnil : n.fVoters = [] := List.eq_nil_of_length_eq_zero (by omega)
          rw [if_pos h0]
          by_cases h4 : n.fKind = 4
          · rw [if_neg (fun h => h h4)]
            congr 1
            rw [if_neg (by rw [hnil]; simp [risingP]), if_neg (fun h => by
              rcases h.2.2.2 with h | h
              · rw [hnil] at h; simp [risingP] at h
              · exact h.2 h4)]
          · rw [if_pos h4, if_pos ⟨hh, hc, ht, .inr ⟨hnil, h4⟩⟩]
        · rw [if_neg h0]
          congr 1
          by_cases hr : risingP n.fVoters = true
          · rw [if_pos hr, if_pos ⟨hh, hc, ht, .inl hr⟩]
          · rw [if_neg hr, if_neg (fun h => by
              rcases h.2.2.2 with h | h
              · exact hr h
              · rw [h.1] at h0; exact h0 rfl)]
      by_cases hn : (0 : Int) < n.fEntries.length
      · rw [if_pos hn, w64_id (x := (n.fEntries.length : Int) - 1) (by omega) (by omega), show (n.fEntries.length : Int) - 1 = ((n.fEntries.length - 1 : Nat) : Int) by omega, at_getE (by omega)]
        simp only [Option.bind_some]
        by_cases ht : n.fTerm < (n.fEntries.getD (n.fEntries.length - 1) zeroE).fTerm
        · rw [if_pos ht, if_neg (fun h => by have := h.2.2.1 (n.fEntries.length - 1) (by omega); omega)]
        · rw [if_neg ht]
          exact hv 0 fun k hk => by
            have := terms_mono hc (n.fEntries.length - 1) (by simp only; omega) k (by omega)
            simp only at this
            omega
      · rw [if_neg hn]
        exact hv 0 fun k hk => by omega
    · rw [hc]
      simp only [ne_eq, Int.reduceEq, not_false_eq_true, if_true]
      rw [if_neg (fun h => by have := h.2.1; rw [hc] at this; cases this)]
  · unfold noteP
    rw [if_neg (fun h => hh h.1)]
    unfold m_raft_Check
    simp only [m_node, Option.bind_some]
    by_cases q1 : n.fKind < 1
    · rw [if_pos q1]
    rw [if_neg q1]
    by_cases q2 : 5 < n.fKind
    · rw [if_pos q2]
    rw [if_neg q2]
    by_cases q3' : ¬ (0 ≤ n.fFrom ∧ n.fFrom < 64)
    · rw [if_neg (by simpa using q3')]
    have q3 := Classical.not_not.1 q3'
    rw [if_pos (by simpa using q3)]
    by_cases q4' : ¬ (0 ≤ n.fTo ∧ n.fTo < 64)
    · rw [if_neg (by simpa using q4')]
    have q4 := Classical.not_not.1 q4'
    rw [if_pos (by simpa using q4)]
    by_cases q5 : n.fFrom = n.fTo
    · rw [if_pos q5]
    rw [if_neg q5]
    by_cases q6 : n.fTerm < 1
    · rw [if_pos q6]
    rw [if_neg q6]
    by_cases q7 : 1099511627776 < n.fTerm
    · rw [if_pos q7]
    rw [if_neg q7]
    by_cases q8 : n.fIndex < 0
    · rw [if_pos q8]
    rw [if_neg q8]
    by_cases q9 : 1099511627776 < n.fIndex
    · rw [if_pos q9]
    rw [if_neg q9]
    by_cases r1 : n.fCommit < 0
    · rw [if_pos r1]
    rw [if_neg r1]
    by_cases r2 : 1099511627776 < n.fCommit
    · rw [if_pos r2]
    rw [if_neg r2]
    by_cases r3 : n.fLogTerm < 0
    · rw [if_pos r3]
    rw [if_neg r3]
    by_cases r4 : n.fTerm < n.fLogTerm
    · rw [if_pos r4]
    rw [if_neg r4]
    by_cases r5 : (16 : Int) < n.fEntries.length
    · rw [if_pos r5]
    rw [if_neg r5]
    by_cases r6 : w64 (1099511627776 - (n.fEntries.length : Int)) < n.fIndex
    · rw [if_pos r6]
    rw [if_neg r6]
    rw [w64_id (by omega) (by omega)] at r6
    by_cases r7 : (50000 : Int) < n.fSnap.size
    · rw [if_pos r7]
    exact absurd ⟨⟨by omega, by omega⟩, q3, q4, q5, ⟨by omega, by omega⟩, ⟨by omega, by omega⟩, ⟨by omega, by omega⟩, ⟨by omega, by omega⟩, by omega, by omega, by omega⟩ hh
theorem rnote_step (n : GNote) (k : Nat) (hl : n.fEntries.length ≤ 1000000) : m_ref12_Check_s3 n (k : Int) = if k < n.fEntries.length then (if (n.fEntries.getD k zeroE).fTerm ≤ n.fTerm then some (.inl ((k + 1 : Nat) : Int)) else some (.inr (.inr 1))) else some (.inr (.inl ())) := by
  unfold m_ref12_Check_s3
  by_cases hk : k < n.fEntries.length
  · rw [if_pos (by omega), if_pos hk, at_getE hk]
    simp only [Option.bind_some]
    rw [w64_id (x := (k : Int) + 1) (by omega) (by omega)]
    by_cases h1 : n.fTerm < (n.fEntries.getD k zeroE).fTerm
    · rw [if_pos h1, if_neg (by omega)]
    · rw [if_neg h1, if_pos (by omega)]; rfl
  · rw [if_neg (by omega), if_neg hk]
theorem m_rnote (n : GNote) (hm : modest n.fEntries) (hl : n.fVoters.length ≤ 1000000) (he : n.fEntries.length ≤ 1000000) : m_ref12_Check n = some (noteP n) := by
  by_cases hh : headP n
  · obtain ⟨⟨a1, a2⟩, b, c, d, ⟨e1, e2⟩, ⟨f1, f2⟩, ⟨g1, g2⟩, ⟨i1, i2⟩, j1, j2, j3⟩ := id hh
    unfold m_ref12_Check
    rw [if_neg (by omega), if_neg (by omega), if_neg (by omega), if_neg (by omega), if_neg (by omega), if_neg (by omega), if_neg d, if_neg (by omega), if_neg (by omega), if_neg (by omega), if_neg (by omega), if_neg (by omega), if_neg (by omega), if_neg (by omega), if_neg (by omega), if_neg (by omega), if_neg (by rw [w64_id (by omega) (by omega)]; omega), if_neg (by omega)]
    rw [m_rCheck _ hm]
    simp only [Option.bind_some]
    unfold noteP
    rcases checkP_or ⟨n.fIndex, n.fLogTerm, n.fEntries⟩ with hc | hc
    · rw [hc]
      simp only [ne_eq, not_true_eq_false, if_false]
      by_cases hg : ∀ k, k < n.fEntries.length → (n.fEntries.getD k zeroE).fTerm ≤ n.fTerm
      · have hL : loop (fun s => m_ref12_Check_s3 n s) 0 = some (.inl ()) := loop_run n.fEntries.length (fun k => (k : Int)) _ rfl (fun k hk => by rw [rnote_step n k he, if_pos hk, if_pos (hg k hk)]) (by rw [rnote_step n _ he, if_neg (by omega)])
        rw [hL]
        simp only [Option.bind_some, Sum.elim_inl, m_ref12_Check_j1, m_ref12_Check_j2]
        rw [m_Right _ (by omega)]
        simp only [Option.bind_some]
        by_cases hr : risingP n.fVoters = true
        · rw [if_pos hr, if_pos ⟨hh, hc, hg, .inl hr⟩]
        · rw [if_neg hr]
          by_cases h0 : (0 : Int) < n.fVoters.length
          · rw [if_pos h0, if_neg (fun h => by
              rcases h.2.2.2 with h | h
              · exact hr h
              · rw [h.1] at h0; simp at h0)]
          · have hnil : n.fVoters = [] := List.eq_nil_of_length_eq_zero (by omega)
            rw [if_neg h0]
            by_cases h4 : n.fKind = 4
            · rw [if_pos h4, if_neg (fun h => by
                rcases h.2.2.2 with h | h
                · exact hr h
                · exact h.2 h4)]
            · rw [if_neg h4, if_pos ⟨hh, hc, hg, .inr ⟨hnil, h4⟩⟩]
      · obtain ⟨m, hm', hng, hgo⟩ := first_not hg
        have hL : loop (fun s => m_ref12_Check_s3 n s) 0 = some (.inr 1) := loop_run m (fun k => (k : Int)) _ rfl (fun k hk => by rw [rnote_step n k he, if_pos (by omega), if_pos (hgo k hk)]) (by rw [rnote_step n _ he, if_pos hm', if_neg hng])
        rw [hL]
        simp only [Option.bind_some, Sum.elim_inr]
        rw [if_neg (fun h => hng (h.2.2.1 m hm'))]
    · rw [hc]
      simp only [ne_eq, Int.reduceEq, not_false_eq_true, if_true]
      rw [if_neg (fun h => by have := h.2.1; rw [hc] at this; cases this)]
  · unfold noteP
    rw [if_neg (fun h => hh h.1)]
    unfold m_ref12_Check
    by_cases q1 : n.fKind < 1
    · rw [if_pos q1]
    rw [if_neg q1]
    by_cases q2 : 5 < n.fKind
    · rw [if_pos q2]
    rw [if_neg q2]
    by_cases q3 : n.fFrom < 0
    · rw [if_pos q3]
    rw [if_neg q3]
    by_cases q3' : 63 < n.fFrom
    · rw [if_pos q3']
    rw [if_neg q3']
    by_cases q4 : n.fTo < 0
    · rw [if_pos q4]
    rw [if_neg q4]
    by_cases q4' : 63 < n.fTo
    · rw [if_pos q4']
    rw [if_neg q4']
    by_cases q5 : n.fFrom = n.fTo
    · rw [if_pos q5]
    rw [if_neg q5]
    by_cases q6 : n.fTerm < 1
    · rw [if_pos q6]
    rw [if_neg q6]
    by_cases q7 : 1099511627776 < n.fTerm
    · rw [if_pos q7]
    rw [if_neg q7]
    by_cases q8 : n.fIndex < 0
    · rw [if_pos q8]
    rw [if_neg q8]
    by_cases q9 : 1099511627776 < n.fIndex
    · rw [if_pos q9]
    rw [if_neg q9]
    by_cases r3 : n.fLogTerm < 0
    · rw [if_pos r3]
    rw [if_neg r3]
    by_cases r4 : n.fTerm < n.fLogTerm
    · rw [if_pos r4]
    rw [if_neg r4]
    by_cases r1 : n.fCommit < 0
    · rw [if_pos r1]
    rw [if_neg r1]
    by_cases r2 : 1099511627776 < n.fCommit
    · rw [if_pos r2]
    rw [if_neg r2]
    by_cases r5 : (16 : Int) < n.fEntries.length
    · rw [if_pos r5]
    rw [if_neg r5]
    by_cases r6 : w64 (1099511627776 - (n.fEntries.length : Int)) < n.fIndex
    · rw [if_pos r6]
    rw [if_neg r6]
    rw [w64_id (by omega) (by omega)] at r6
    by_cases r7 : (50000 : Int) < n.fSnap.size
    · rw [if_pos r7]
    exact absurd ⟨⟨by omega, by omega⟩, ⟨by omega, by omega⟩, ⟨by omega, by omega⟩, q5, ⟨by omega, by omega⟩, ⟨by omega, by omega⟩, ⟨by omega, by omega⟩, ⟨by omega, by omega⟩, by omega, by omega, by omega⟩ hh
/-! ### The law -/
theorem m_small12 (p : GNote) (hp : p.fEntries.length ≤ 9223372036854775807) : ∃ n, m_law12_small p = some n ∧ n.fEntries.length ≤ 20 ∧ modest n.fEntries ∧ n.fVoters.length ≤ 20 ∧ n.fSnap.size ≤ 100 := by
  unfold m_law12_small
  obtain ⟨l, h1, h2, h3⟩ := loop_rule (step := fun s => m_law12_small_s4 p s.1 s.2) (fun s : List GEntry × Int => (s.1.length : Int) = s.2 ∧ s.2 ≤ 20 ∧ modest s.1) (fun s => (20 - s.2).toNat) (fun l => l.length ≤ 20 ∧ modest l) (fun s ⟨hs1, hs2, hs3⟩ => by
    show (∃ s', m_law12_small_s4 p s.1 s.2 = _ ∧ _) ∨ _
    unfold m_law12_small_s4
    by_cases c1 : s.2 < p.fEntries.length
    · rw [if_pos c1]
      by_cases c2 : s.2 < 20
      · rw [if_pos c2, at_of (by omega) (by omega)]
        simp only [Option.bind_some]
        generalize p.fEntries[s.2.toNat] = e
        have hgo : ∀ d : ByteArray, d.size ≤ 100 → ∃ s', m_law12_small_j5 s.1 e s.2 d = some (.inl s') ∧ ((s'.1.length : Int) = s'.2 ∧ s'.2 ≤ 20 ∧ modest s'.1) ∧ (20 - s'.2).toNat < (20 - s.2).toNat := fun d hd => by
          unfold m_law12_small_j5
          rw [app_of (by simp; omega), w64_id (x := s.2 + 1) (by omega) (by omega)]
          refine ⟨_, rfl, ⟨by simp; omega, by omega, fun x hx => ?_⟩, by simp only; omega⟩
          rcases List.mem_append.1 hx with hx | hx
          · exact hs3 x hx
          · simp only [List.mem_singleton] at hx; subst hx; simp only; omega
        by_cases c3 : (100 : Int) < e.fData.size
        · rw [if_pos c3]
          unfold scutHi
          rw [if_pos (by omega)]
          simp only [Option.bind_some]
          exact .inl (hgo _ (by rw [ByteArray.size_extract]; omega))
        · rw [if_neg c3]
          exact .inl (hgo _ (by omega))
      · rw [if_neg c2]
        exact .inr ⟨_, rfl, by omega, hs3⟩
    · rw [if_neg c1]
      exact .inr ⟨_, rfl, by omega, hs3⟩) (s0 := ([], 0)) ⟨rfl, by decide, fun e he => by cases he⟩
  rw [h1]
  simp only [Option.bind_some]
  have hj2 : ∀ v : List Int, v.length ≤ 20 → ∃ n, m_law12_small_j2 p l v = some n ∧ n.fEntries.length ≤ 20 ∧ modest n.fEntries ∧ n.fVoters.length ≤ 20 ∧ n.fSnap.size ≤ 100 := fun v hv => by
    unfold m_law12_small_j2 m_law12_small_j3
    by_cases c : (100 : Int) < p.fSnap.size
    · rw [if_pos c]
      unfold scutHi
      rw [if_pos (by omega)]
      exact ⟨_, rfl, h2, h3, hv, by simp only [ByteArray.size_extract]; omega⟩
    · rw [if_neg c]
      exact ⟨_, rfl, h2, h3, hv, by simp only; omega⟩
  unfold m_law12_small_j1
  by_cases c : (20 : Int) < p.fVoters.length
  · rw [if_pos c]
    unfold cutHi
    rw [if_pos (by omega)]
    simp only [Option.bind_some]
    exact hj2 _ (by rw [List.length_take]; omega)
  · rw [if_neg c]
    exact hj2 _ (by omega)
theorem q_RaftNotes (p0 : GNote) (p1 : List Int) (p2 : List Int) (h0 : GNote.ok p0) (h1 : (p1.length ≤ 9223372036854775807 ∧ ∀ a ∈ p1, ((-9223372036854775808) ≤ a ∧ a ≤ 9223372036854775807))) (h2 : (p2.length ≤ 9223372036854775807 ∧ ∀ a ∈ p2, ((-9223372036854775808) ≤ a ∧ a ≤ 9223372036854775807))) : m_law12_RaftNotes p0 p1 p2 = some true := by
  unfold GNote.ok at h0
  obtain ⟨n, hn, he, hm, hv, _⟩ := m_small12 p0 (by first | exact h0.2.2.2.2.2.2.2.2.1.1 | omega)
  unfold m_law12_RaftNotes
  rw [awake12, hn]
  simp only [Option.bind_some]
  have hj : ∀ l w : List Int, l.length ≤ 20 → w.length ≤ 20 → m_law12_RaftNotes_j2 true n l w = some true := fun l w hl hw => by
    unfold m_law12_RaftNotes_j2
    rw [if_pos rfl, m_note n hm (by omega) (by omega), m_rnote n hm (by omega) (by omega)]
    simp only [Option.bind_some, if_true]
    rw [m_Majority l w (by omega) (by omega), m_rMajority l w (by omega) (by omega)]
    simp
  have hj1 : ∀ l : List Int, l.length ≤ 20 → m_law12_RaftNotes_j1 p2 true n l = some true := fun l hl => by
    unfold m_law12_RaftNotes_j1
    by_cases c : (20 : Int) < p2.length
    · rw [if_pos c]
      unfold cutHi
      rw [if_pos (by omega)]
      simp only [Option.bind_some]
      exact hj _ _ hl (by rw [List.length_take]; omega)
    · rw [if_neg c]
      exact hj _ _ hl (by omega)
  by_cases c : (20 : Int) < p1.length
  · rw [if_pos c]
    unfold cutHi
    rw [if_pos (by omega)]
    simp only [Option.bind_some]
    exact hj1 _ (by rw [List.length_take]; omega)
  · rw [if_neg c]
    exact hj1 _ (by omega)
end Go.Proofs.Ytoglbdaagfoddaa
