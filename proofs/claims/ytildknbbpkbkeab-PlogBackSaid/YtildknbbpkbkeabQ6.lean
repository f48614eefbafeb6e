import Derived.Test.YtildknbbpkbkeabK6
set_option linter.unusedVariables false
set_option linter.unusedSimpArgs false
set_option maxRecDepth 16384
namespace Go.Proofs.Ytildknbbpkbkeab
open Go.RowKit

/-- May a number stand at k in a list of voters? -/
def good (l : List Int) (k : Nat) : Prop := 0 ≤ l.getD k 0 ∧ l.getD k 0 < 64 ∧ (0 < k → l.getD (k - 1) 0 < l.getD k 0)
instance (l : List Int) (k : Nat) : Decidable (good l k) := by unfold good; infer_instance
def risingP (l : List Int) : Bool := decide (0 < l.length ∧ ∀ k, k < l.length → good l k)
theorem at_getD {l : List Int} {k : Nat} (h : k < l.length) : at_ l (k : Int) = some (l.getD k 0) := by
  rw [at_nat h, List.getD_eq_getElem?_getD, List.getElem?_eq_getElem h]; rfl
theorem rising_step (l : List Int) (k : Nat) (hl : l.length ≤ 9223372036854775807) : m_plog_rising_s2 l (k : Int) = if k < l.length then (if good l k then some (.inl ((k + 1 : Nat) : Int)) else some (.inr (.inr false))) else some (.inr (.inl ())) := by
  unfold m_plog_rising_s2
  by_cases hk : k < l.length
  · rw [if_pos (by omega), if_pos hk, at_getD hk]
    simp only [Option.bind_some]
    rw [w64_id (x := (k : Int) + 1) (by omega) (by omega)]
    by_cases h1 : l.getD k 0 < 0
    · rw [if_pos h1, if_neg (fun h => by have := h.1; omega)]
    · rw [if_neg h1]
      by_cases h2 : 64 ≤ l.getD k 0
      · rw [if_pos h2, if_neg (fun h => by have := h.2.1; omega)]
      · rw [if_neg h2]
        by_cases h3 : (0 : Int) < k
        · rw [if_pos h3, w64_id (x := (k : Int) - 1) (by omega) (by omega), show (k : Int) - 1 = ((k - 1 : Nat) : Int) by omega, at_getD (by omega)]
          simp only [Option.bind_some]
          by_cases h4 : l.getD k 0 ≤ l.getD (k - 1) 0
          · rw [if_pos h4, if_neg (fun h => by have := h.2.2 (by omega); omega)]
          · rw [if_neg h4, if_pos ⟨by omega, by omega, fun _ => by omega⟩]; rfl
        · rw [if_neg h3, if_pos ⟨by omega, by omega, fun _ => by omega⟩]; rfl
  · rw [if_neg (by omega), if_neg hk]
theorem m_rising (l : List Int) (hl : l.length ≤ 9223372036854775807) : m_plog_rising l = some (risingP l) := by
  unfold m_plog_rising
  by_cases hg : ∀ k, k < l.length → good l k
  · have hL : loop (fun s => m_plog_rising_s2 l s) 0 = some (.inl ()) := loop_run l.length (fun k => (k : Int)) _ rfl (fun k hk => by rw [rising_step l k hl, if_pos hk, if_pos (hg k hk)]) (by rw [rising_step l _ hl, if_neg (by omega)])
    rw [hL]
    simp only [Option.bind_some, Sum.elim_inl, m_plog_rising_j1, risingP, Option.some.injEq, decide_eq_decide]
    constructor
    · intro h; exact ⟨by omega, hg⟩
    · intro h; omega
  · obtain ⟨n, hn, hng, hgo⟩ := first_not hg
    have hL : loop (fun s => m_plog_rising_s2 l s) 0 = some (.inr false) := loop_run n (fun k => (k : Int)) _ rfl (fun k hk => by rw [rising_step l k hl, if_pos (by omega), if_pos (hgo k hk)]) (by rw [rising_step l _ hl, if_pos hn, if_neg hng])
    rw [hL]
    simp only [Option.bind_some, Sum.elim_inr, risingP, Option.some.injEq]
    exact (decide_eq_false (fun h => hng (h.2 n hn))).symm
def listP (s : ByteArray) : List Int × Bool := if risingP (bytesI s) then (bytesI s, true) else ([], false)
theorem m_List (s : ByteArray) (hs : s.size ≤ 17592186044416) : m_plog_List s = some (listP s) := by
  unfold m_plog_List
  have hstep : ∀ k, k < s.size → m_plog_List_s2 s ((bytesI s).take k) (k : Int) = some (.inl ((bytesI s).take (k + 1), ((k + 1 : Nat) : Int))) := by
    intro k hk
    unfold m_plog_List_s2
    rw [if_pos (by omega), sat_of (by omega) (by omega)]
    simp only [Option.bind_some]
    have hb := byteAt_lt s k
    rw [w64_id (x := byteAt s k) (by omega) (by omega), app_of (by simp [bytesI_length]; omega)]
    simp only [Option.bind_some]
    rw [w64_id (x := (k : Int) + 1) (by omega) (by omega), List.take_succ_eq_append_getElem (by rw [bytesI_length]; exact hk), bytesI_get s k hk]
    rfl
  have hL : loop (fun x => m_plog_List_s2 s x.1 x.2) (([] : List Int), 0) = some (bytesI s) := loop_run s.size (fun k => ((bytesI s).take k, (k : Int))) _ rfl (fun k hk => hstep k hk) (by
    show m_plog_List_s2 s ((bytesI s).take s.size) (s.size : Int) = _
    unfold m_plog_List_s2
    rw [if_neg (by omega), List.take_of_length_le (by rw [bytesI_length]; exact Nat.le_refl _)])
  rw [hL]
  simp only [Option.bind_some, m_plog_List_j1]
  rw [m_rising _ (by rw [bytesI_length]; omega)]
  simp only [Option.bind_some, listP]
  cases risingP (bytesI s) <;> simp
theorem m_rList (s : ByteArray) (hs : s.size ≤ 17592186044416) : m_ref11_List s = some (listP s) := by
  unfold m_ref11_List
  have hat : ∀ k, k < s.size → byteAt s k = (bytesI s).getD k 0 := fun k hk => by
    rw [List.getD_eq_getElem?_getD, List.getElem?_eq_getElem (by rw [bytesI_length]; exact hk), Option.getD_some, bytesI_get s k hk]
  have hstep : ∀ k, k < s.size → m_ref11_List_s2 s ((bytesI s).take k) (k : Int) = if good (bytesI s) k then some (.inl ((bytesI s).take (k + 1), ((k + 1 : Nat) : Int))) else some (.inr (.inr ([], false))) := by
    intro k hk
    unfold m_ref11_List_s2
    simp only [m_ref11_List_j3]
    have hb := byteAt_lt s k
    have e1 := hat k hk
    have ht : (bytesI s).take (k + 1) = (bytesI s).take k ++ [byteAt s k] := by rw [List.take_succ_eq_append_getElem (by rw [bytesI_length]; exact hk), bytesI_get s k hk]
    have happ : app 8 ((bytesI s).take k) [w64 (byteAt s k)] = some ((bytesI s).take (k + 1)) := by
      rw [w64_id (x := byteAt s k) (by omega) (by omega), app_of (by simp [bytesI_length]; omega), ht]
    rw [if_pos (by omega), sat_of (by omega) (by omega)]
    simp only [Option.bind_some]
    rw [w64_id (x := (k : Int) + 1) (by omega) (by omega)]
    by_cases h2 : 63 < byteAt s k
    · rw [if_pos h2, if_neg (fun h => by have := h.2.1; omega)]
    · rw [if_neg h2]
      by_cases h3 : (0 : Int) < k
      · rw [if_pos h3, w64_id (x := (k : Int) - 1) (by omega) (by omega), show (k : Int) - 1 = ((k - 1 : Nat) : Int) by omega, sat_of (i := ((k - 1 : Nat) : Int)) (by omega) (by omega)]
        simp only [Option.bind_some]
        have e2 := hat (k - 1) (by omega)
        by_cases h4 : byteAt s k ≤ byteAt s ((k - 1 : Nat) : Int)
        · rw [if_pos h4, if_neg (fun h => by have := h.2.2 (by omega); omega)]
        · rw [if_neg h4, happ, if_pos ⟨by omega, by omega, fun _ => by omega⟩]; rfl
      · rw [if_neg h3, happ, if_pos ⟨by omega, by omega, fun _ => by omega⟩]; rfl
  have hend : m_ref11_List_s2 s ((bytesI s).take s.size) (s.size : Int) = some (.inr (.inl (bytesI s))) := by
    unfold m_ref11_List_s2
    rw [if_neg (by omega), List.take_of_length_le (by rw [bytesI_length]; exact Nat.le_refl _)]
  by_cases hg : ∀ k, k < s.size → good (bytesI s) k
  · have hL : loop (fun x => m_ref11_List_s2 s x.1 x.2) (([] : List Int), 0) = some (.inl (bytesI s)) := loop_run s.size (fun k => ((bytesI s).take k, (k : Int))) _ rfl (fun k hk => by show m_ref11_List_s2 s _ _ = _; rw [hstep k hk, if_pos (hg k hk)]) hend
    rw [hL]
    simp only [Option.bind_some, Sum.elim_inl, m_ref11_List_j1, listP]
    by_cases h0 : 0 < s.size
    · rw [if_pos (show risingP (bytesI s) = true from decide_eq_true ⟨by rw [bytesI_length]; exact h0, fun k hk => hg k (by rw [bytesI_length] at hk; exact hk)⟩), decide_eq_true (by omega)]
    · rw [if_neg (by simp only [risingP, decide_eq_true_eq, bytesI_length]; omega), decide_eq_false (by omega)]
      rw [show bytesI s = [] from List.eq_nil_of_length_eq_zero (by rw [bytesI_length]; omega)]
  · obtain ⟨n, hn, hng, hgo⟩ := first_not hg
    have hL : loop (fun x => m_ref11_List_s2 s x.1 x.2) (([] : List Int), 0) = some (.inr ([], false)) := loop_run n (fun k => ((bytesI s).take k, (k : Int))) _ rfl (fun k hk => by show m_ref11_List_s2 s _ _ = _; rw [hstep k (by omega), if_pos (hgo k hk)]) (by show m_ref11_List_s2 s _ _ = _; rw [hstep n hn, if_neg hng])
    rw [hL]
    simp only [Option.bind_some, Sum.elim_inr, listP]
    rw [if_neg (by simp only [risingP, decide_eq_true_eq]; intro h; exact hng (h.2 n (by rw [bytesI_length]; exact hn)))]

/-! ### Logs -/
theorem m_within (n : Int) : m_plog_within n = some (decide (0 ≤ n ∧ n ≤ 1099511627776)) := by
  unfold m_plog_within
  by_cases h : 0 ≤ n
  · rw [if_pos h]; simp [h]
  · rw [if_neg h]; simp [h]
/-- May an entry stand behind one of term t? -/
def entG (t : Int) (e : GEntry) : Prop := t ≤ e.fTerm ∧ (0 ≤ e.fTerm ∧ e.fTerm ≤ 1099511627776) ∧ 0 ≤ e.fKind ∧ e.fKind ≤ 2 ∧ e.fData.size ≤ 8000 ∧ (e.fKind = 1 → risingP (bytesI e.fData) = true)
instance (t : Int) (e : GEntry) : Decidable (entG t e) := by unfold entG; infer_instance
def zeroE : GEntry := ⟨0, 0, ⟨#[]⟩⟩
/-- The term ahead of the k-th entry. -/
def before (t : Int) (l : List GEntry) (k : Nat) : Int := if k = 0 then t else (l.getD (k - 1) zeroE).fTerm
theorem before_succ (t : Int) (l : List GEntry) (k : Nat) : before t l (k + 1) = (l.getD k zeroE).fTerm := by simp [before]
theorem at_getE {l : List GEntry} {k : Nat} (h : k < l.length) : at_ l (k : Int) = some (l.getD k zeroE) := by
  rw [at_nat h, List.getD_eq_getElem?_getD, List.getElem?_eq_getElem h]; rfl
def checkP (l : GLog) : Int := if (0 ≤ l.fBase ∧ l.fBase ≤ 1099511627776) ∧ (0 ≤ l.fBaseTerm ∧ l.fBaseTerm ≤ 1099511627776) ∧ l.fEntries.length ≤ 100000 ∧ ∀ k, k < l.fEntries.length → entG (before l.fBaseTerm l.fEntries k) (l.fEntries.getD k zeroE) then 0 else 1
/-- Texts that may be read whole. -/
def modest (l : List GEntry) : Prop := ∀ e ∈ l, e.fData.size ≤ 17592186044416
theorem modest_at {l : List GEntry} (h : modest l) (k : Nat) (hk : k < l.length) : (l.getD k zeroE).fData.size ≤ 17592186044416 := by
  rw [List.getD_eq_getElem?_getD, List.getElem?_eq_getElem hk]; exact h _ (List.getElem_mem hk)
theorem listP_snd (s : ByteArray) : (listP s).2 = risingP (bytesI s) := by unfold listP; split <;> simp_all
theorem check_step (l : GLog) (k : Nat) (hm : modest l.fEntries) (hl : l.fEntries.length ≤ 100000) : m_plog_Check_s2 l (before l.fBaseTerm l.fEntries k) (k : Int) = if k < l.fEntries.length then (if entG (before l.fBaseTerm l.fEntries k) (l.fEntries.getD k zeroE) then some (.inl (before l.fBaseTerm l.fEntries (k + 1), ((k + 1 : Nat) : Int))) else some (.inr (.inr 1))) else some (.inr (.inl ())) := by
  unfold m_plog_Check_s2
  by_cases hk : k < l.fEntries.length
  · rw [if_pos (by omega), if_pos hk, at_getE hk]
    have hmk := modest_at hm k hk
    rw [before_succ]
    generalize l.fEntries.getD k zeroE = e at *
    simp only [Option.bind_some, m_within, m_List _ hmk]
    rw [w64_id (x := (k : Int) + 1) (by omega) (by omega)]
    have hs := listP_snd e.fData
    generalize listP e.fData = z at *
    generalize before l.fBaseTerm l.fEntries k = t at *
    have hd : (0 : Int) ≤ (e.fData.size : Int) := Int.natCast_nonneg _
    by_cases c1 : e.fTerm < t
    · rw [if_pos c1, if_neg (fun h : entG t e => by have := h.1; omega)]
    · rw [if_neg c1]
      by_cases c2 : 0 ≤ e.fTerm ∧ e.fTerm ≤ 1099511627776
      · rw [if_pos (by simpa using c2)]
        by_cases c3 : e.fKind < 0
        · rw [if_pos c3, if_neg (fun h : entG t e => by have := h.2.2.1; omega)]
        · rw [if_neg c3]
          by_cases c4 : 2 < e.fKind
          · rw [if_pos c4, if_neg (fun h : entG t e => by have := h.2.2.2.1; omega)]
          · rw [if_neg c4]
            by_cases c5 : 8000 < (e.fData.size : Int)
            · rw [if_pos c5, if_neg (fun h : entG t e => by have := h.2.2.2.2.1; omega)]
            · rw [if_neg c5]
              by_cases c6 : e.fKind = 1
              · rw [if_pos c6]
                by_cases c7 : z.2 = true
                · rw [if_pos c7, if_pos (show entG t e from ⟨by omega, c2, by omega, by omega, by omega, fun _ => by rw [← hs, c7]⟩)]; rfl
                · rw [if_neg c7, if_neg (fun h : entG t e => c7 (by rw [hs]; exact h.2.2.2.2.2 c6))]
              · rw [if_neg c6, if_pos (show entG t e from ⟨by omega, c2, by omega, by omega, by omega, fun h => absurd h c6⟩)]; rfl
      · rw [if_neg (by simpa using c2), if_neg (fun h : entG t e => c2 h.2.1)]
  · rw [if_neg (by omega), if_neg hk]

theorem rcheck_step (l : GLog) (k : Nat) (hm : modest l.fEntries) (hl : l.fEntries.length ≤ 100000) (h0 : 0 ≤ before l.fBaseTerm l.fEntries k) : m_ref11_Check_s2 l (before l.fBaseTerm l.fEntries k) (k : Int) = if k < l.fEntries.length then (if entG (before l.fBaseTerm l.fEntries k) (l.fEntries.getD k zeroE) then some (.inl (before l.fBaseTerm l.fEntries (k + 1), ((k + 1 : Nat) : Int))) else some (.inr (.inr 1))) else some (.inr (.inl ())) := by
  unfold m_ref11_Check_s2
  by_cases hk : k < l.fEntries.length
  · rw [if_pos (by omega), if_pos hk, at_getE hk]
    have hmk := modest_at hm k hk
    rw [before_succ]
    generalize l.fEntries.getD k zeroE = e at *
    simp only [Option.bind_some, m_rList _ hmk]
    rw [w64_id (x := (k : Int) + 1) (by omega) (by omega)]
    have hs := listP_snd e.fData
    generalize listP e.fData = z at *
    generalize before l.fBaseTerm l.fEntries k = t at *
    have hd : (0 : Int) ≤ (e.fData.size : Int) := Int.natCast_nonneg _
    by_cases c1 : e.fTerm < t
    · rw [if_pos c1, if_neg (fun h : entG t e => by have := h.1; omega)]
    · rw [if_neg c1]
      by_cases c2 : 1099511627776 < e.fTerm
      · rw [if_pos c2, if_neg (fun h : entG t e => by have := h.2.1; omega)]
      · rw [if_neg c2]
        by_cases c3 : e.fKind < 0
        · rw [if_pos c3, if_neg (fun h : entG t e => by have := h.2.2.1; omega)]
        · rw [if_neg c3]
          by_cases c4 : 2 < e.fKind
          · rw [if_pos c4, if_neg (fun h : entG t e => by have := h.2.2.2.1; omega)]
          · rw [if_neg c4]
            by_cases c5 : 8000 < (e.fData.size : Int)
            · rw [if_pos c5, if_neg (fun h : entG t e => by have := h.2.2.2.2.1; omega)]
            · rw [if_neg c5]
              by_cases c6 : e.fKind = 1
              · rw [if_pos c6]
                by_cases c7 : z.2 = true
                · rw [if_pos c7, if_pos (show entG t e from ⟨by omega, by omega, by omega, by omega, by omega, fun _ => by rw [← hs, c7]⟩)]; rfl
                · rw [if_neg c7, if_neg (fun h : entG t e => c7 (by rw [hs]; exact h.2.2.2.2.2 c6))]
              · rw [if_neg c6, if_pos (show entG t e from ⟨by omega, by omega, by omega, by omega, by omega, fun h => absurd h c6⟩)]; rfl
  · rw [if_neg (by omega), if_neg hk]
theorem before_pos {t : Int} {l : List GEntry} {k : Nat} (h0 : 0 ≤ t) (hg : ∀ j, j < k → entG (before t l j) (l.getD j zeroE)) : 0 ≤ before t l k := by
  cases k with
  | zero => simpa [before] using h0
  | succ k => rw [before_succ]; exact (hg k (by omega)).2.1.1
theorem m_Check (l : GLog) (hm : modest l.fEntries) : m_plog_Check l = some (checkP l) := by
  unfold m_plog_Check checkP
  simp only [m_within, Option.bind_some]
  by_cases c1 : 0 ≤ l.fBase ∧ l.fBase ≤ 1099511627776
  · rw [if_pos (by simpa using c1)]
    by_cases c2 : 0 ≤ l.fBaseTerm ∧ l.fBaseTerm ≤ 1099511627776
    · rw [if_pos (by simpa using c2)]
      by_cases c3 : 100000 < (l.fEntries.length : Int)
      · rw [if_pos c3, if_neg (fun h => by have := h.2.2.1; omega)]
      · rw [if_neg c3]
        have hl : l.fEntries.length ≤ 100000 := by omega
        by_cases hg : ∀ k, k < l.fEntries.length → entG (before l.fBaseTerm l.fEntries k) (l.fEntries.getD k zeroE)
        · have hL : loop (fun s => m_plog_Check_s2 l s.1 s.2) (l.fBaseTerm, 0) = some (.inl ()) := loop_run l.fEntries.length (fun k => (before l.fBaseTerm l.fEntries k, (k : Int))) _ rfl (fun k hk => by show m_plog_Check_s2 l _ _ = _; rw [check_step l k hm hl, if_pos hk, if_pos (hg k hk)]) (by show m_plog_Check_s2 l _ _ = _; rw [check_step l _ hm hl, if_neg (by omega)])
          rw [hL, if_pos ⟨c1, c2, hl, hg⟩]
          rfl
        · obtain ⟨n, hn, hng, hgo⟩ := first_not hg
          have hL : loop (fun s => m_plog_Check_s2 l s.1 s.2) (l.fBaseTerm, 0) = some (.inr 1) := loop_run n (fun k => (before l.fBaseTerm l.fEntries k, (k : Int))) _ rfl (fun k hk => by show m_plog_Check_s2 l _ _ = _; rw [check_step l k hm hl, if_pos (by omega), if_pos (hgo k hk)]) (by show m_plog_Check_s2 l _ _ = _; rw [check_step l _ hm hl, if_pos hn, if_neg hng])
          rw [hL, if_neg (fun h => hng (h.2.2.2 n hn))]
          rfl
    · rw [if_neg (by simpa using c2), if_neg (fun h => c2 h.2.1)]
  · rw [if_neg (by simpa using c1), if_neg (fun h => c1 h.1)]
theorem m_rCheck (l : GLog) (hm : modest l.fEntries) : m_ref11_Check l = some (checkP l) := by
  unfold m_ref11_Check checkP
  by_cases a1 : l.fBase < 0
  · rw [if_pos a1, if_neg (fun h => by have := h.1; omega)]
  rw [if_neg a1]
  by_cases a2 : 1099511627776 < l.fBase
  · rw [if_pos a2, if_neg (fun h => by have := h.1; omega)]
  rw [if_neg a2]
  by_cases a3 : l.fBaseTerm < 0
  · rw [if_pos a3, if_neg (fun h => by have := h.2.1; omega)]
  rw [if_neg a3]
  by_cases a4 : 1099511627776 < l.fBaseTerm
  · rw [if_pos a4, if_neg (fun h => by have := h.2.1; omega)]
  rw [if_neg a4]
  by_cases c3 : 100000 < (l.fEntries.length : Int)
  · rw [if_pos c3, if_neg (fun h => by have := h.2.2.1; omega)]
  rw [if_neg c3]
  have hl : l.fEntries.length ≤ 100000 := by omega
  by_cases hg : ∀ k, k < l.fEntries.length → entG (before l.fBaseTerm l.fEntries k) (l.fEntries.getD k zeroE)
  · have hL : loop (fun s => m_ref11_Check_s2 l s.1 s.2) (l.fBaseTerm, 0) = some (.inl ()) := loop_run l.fEntries.length (fun k => (before l.fBaseTerm l.fEntries k, (k : Int))) _ rfl (fun k hk => by show m_ref11_Check_s2 l _ _ = _; rw [rcheck_step l k hm hl (before_pos (by omega) fun j hj => hg j (by omega)), if_pos hk, if_pos (hg k hk)]) (by show m_ref11_Check_s2 l _ _ = _; rw [rcheck_step l _ hm hl (before_pos (by omega) fun j hj => hg j (by omega)), if_neg (by omega)])
    rw [hL, if_pos ⟨by omega, by omega, hl, hg⟩]
    rfl
  · obtain ⟨n, hn, hng, hgo⟩ := first_not hg
    have hL : loop (fun s => m_ref11_Check_s2 l s.1 s.2) (l.fBaseTerm, 0) = some (.inr 1) := loop_run n (fun k => (before l.fBaseTerm l.fEntries k, (k : Int))) _ rfl (fun k hk => by show m_ref11_Check_s2 l _ _ = _; rw [rcheck_step l k hm hl (before_pos (by omega) fun j hj => hgo j (by omega)), if_pos (by omega), if_pos (hgo k hk)]) (by show m_ref11_Check_s2 l _ _ = _; rw [rcheck_step l _ hm hl (before_pos (by omega) fun j hj => hgo j (by omega)), if_pos hn, if_neg hng])
    rw [hL, if_neg (fun h => hng (h.2.2.2 n hn))]
    rfl
/-! ### What is asked of a log -/
structure okB (l : GLog) : Prop where
  lo : -1125899906842624 ≤ l.fBase
  hi : l.fBase ≤ 1125899906842625
  len : l.fEntries.length ≤ 140737488355328
def getP (l : GLog) (i : Int) : GEntry × Bool := if l.fBase < i ∧ i ≤ l.fBase + l.fEntries.length then (l.fEntries.getD (i - l.fBase - 1).toNat zeroE, true) else (zeroE, false)
def termP (l : GLog) (i : Int) : Int × Bool := if i = l.fBase then (l.fBaseTerm, true) else ((getP l i).1.fTerm, (getP l i).2)
theorem m_Last (l : GLog) (h : okB l) : m_plog_Last l = some (l.fBase + l.fEntries.length) := by
  have := h.lo; have := h.hi; have := h.len
  unfold m_plog_Last; rw [w64_id (by omega) (by omega)]
theorem m_Get (l : GLog) (i : Int) (h : okB l) : m_plog_Get l i = some (getP l i) := by
  have h1 := h.lo; have h2 := h.hi; have h3 := h.len
  unfold m_plog_Get getP
  by_cases c1 : i ≤ l.fBase
  · rw [if_pos c1, if_neg (by omega)]; rfl
  · rw [if_neg c1, m_Last l h]
    simp only [Option.bind_some]
    by_cases c2 : l.fBase + l.fEntries.length < i
    · rw [if_pos c2, if_neg (by omega)]; rfl
    · rw [if_neg c2, if_pos (by omega), w64_id (x := i - l.fBase) (by omega) (by omega), w64_id (x := i - l.fBase - 1) (by omega) (by omega)]
      obtain ⟨k, hk⟩ : ∃ k : Nat, i - l.fBase - 1 = k := ⟨(i - l.fBase - 1).toNat, by omega⟩
      rw [hk, at_getE (by omega), Int.toNat_natCast]
      rfl
theorem m_Term (l : GLog) (i : Int) (h : okB l) : m_plog_Term l i = some (termP l i) := by
  unfold m_plog_Term termP
  by_cases c : i = l.fBase
  · rw [if_pos c, if_pos c]
  · rw [if_neg c, if_neg c, m_Get l i h]; rfl
theorem m_SameLog (a : GLog) (hl : a.fEntries.length ≤ 140737488355328) : m_ref11_SameLog a a = some true := by
  unfold m_ref11_SameLog
  rw [if_neg (by simp), if_neg (by simp), if_neg (by simp)]
  have hL : loop (fun s => m_ref11_SameLog_s2 a a s) 0 = some (.inl ()) := loop_run a.fEntries.length (fun k => (k : Int)) _ rfl (fun k hk => by
    unfold m_ref11_SameLog_s2
    rw [if_pos (by omega), at_getE hk, w64_id (x := (k : Int) + 1) (by omega) (by omega)]
    simp) (by unfold m_ref11_SameLog_s2; rw [if_neg (by omega)])
  rw [hL]; rfl
/-- How many entries lie ahead of index i. -/
def ahead (l : GLog) (i : Int) : Nat := (i - l.fBase - 1).toNat
/-- A log's entries as the law takes them. -/
def cutE (e : GEntry) : GEntry := if 60 < (e.fData.size : Int) then ⟨e.fTerm, e.fKind, e.fData.extract 0 60⟩ else e
def fewP (l : List GEntry) : List GEntry := (l.take 40).map cutE
theorem cutE_size (e : GEntry) : (cutE e).fData.size ≤ 60 := by
  unfold cutE
  split
  · show (e.fData.extract 0 60).size ≤ 60; rw [ByteArray.size_extract]; omega
  · omega
theorem fewP_len (l : List GEntry) : (fewP l).length ≤ 40 := by simp [fewP]; omega
theorem fewP_modest (l : List GEntry) : ∀ e ∈ fewP l, e.fData.size ≤ 60 := by
  intro e he
  obtain ⟨x, _, rfl⟩ := List.mem_map.1 he
  exact cutE_size x
theorem m_few (l : List GEntry) : m_law11_few l = some (fewP l) := by
  unfold m_law11_few
  have hL : loop (fun s => m_law11_few_s2 l s.1 s.2) (([] : List GEntry), 0) = some (fewP l) := by
    refine loop_run (min l.length 40) (fun k => ((l.take k).map cutE, (k : Int))) _ (by simp) (fun k hk => ?_) ?_
    · show m_law11_few_s2 l _ _ = _
      unfold m_law11_few_s2
      have hk1 : k < l.length := by omega
      have ht : (l.take (k + 1)).map cutE = (l.take k).map cutE ++ [cutE (l.getD k zeroE)] := by
        rw [List.take_succ_eq_append_getElem hk1, List.map_append, List.getD_eq_getElem?_getD, List.getElem?_eq_getElem hk1]; rfl
      have happ : ∀ e, app 32 ((l.take k).map cutE) [e] = some ((l.take k).map cutE ++ [e]) := fun e => app_of (by simp only [List.length_map, List.length_take, List.length_cons, List.length_nil]; omega)
      rw [if_pos (by omega), if_pos (by omega), at_getE hk1]
      simp only [Option.bind_some]
      rw [ht]
      unfold cutE
      by_cases c : 60 < ((l.getD k zeroE).fData.size : Int)
      · rw [if_pos c]
        unfold scutHi
        rw [if_pos (by omega)]
        simp only [Option.bind_some, m_law11_few_j3]
        rw [show List.map (fun e : GEntry => if 60 < (e.fData.size : Int) then (⟨e.fTerm, e.fKind, e.fData.extract 0 60⟩ : GEntry) else e) (List.take k l) = (l.take k).map cutE from rfl, happ, w64_id (by omega) (by omega), if_pos c]
        rfl
      · rw [if_neg c]
        simp only [m_law11_few_j3]
        rw [show List.map (fun e : GEntry => if 60 < (e.fData.size : Int) then (⟨e.fTerm, e.fKind, e.fData.extract 0 60⟩ : GEntry) else e) (List.take k l) = (l.take k).map cutE from rfl, happ, w64_id (by omega) (by omega), if_neg c]
        rfl
    · show m_law11_few_s2 l _ _ = _
      unfold m_law11_few_s2 fewP
      by_cases c : ((min l.length 40 : Nat) : Int) < l.length
      · rw [if_pos c, if_neg (by omega), Nat.min_eq_right (by omega)]
      · rw [if_neg c, List.take_of_length_le (i := min l.length 40) (by omega), List.take_of_length_le (i := 40) (by omega)]
  rw [hL]; rfl
def smallP (l : GLog) : GLog := ⟨l.fBase, l.fBaseTerm, fewP l.fEntries⟩
theorem m_small (l : GLog) : m_law11_small l = some (smallP l) := by
  unfold m_law11_small; rw [m_few]; rfl
def exL : GLog := ⟨2, 1, [⟨1, 0, ⟨#[]⟩⟩, ⟨2, 0, ⟨#[]⟩⟩]⟩
theorem exB : okB exL := ⟨by decide, by decide, by decide⟩
theorem put1 : m_plog_Put exL 3 [⟨3, 0, ⟨#[]⟩⟩] = some (⟨2, 1, [⟨1, 0, ⟨#[]⟩⟩, ⟨3, 0, ⟨#[]⟩⟩]⟩, 4) := by
  unfold m_plog_Put
  rw [if_neg (by decide), m_Last _ exB, loop_unfold]
  have hs : m_plog_Put_s2 [⟨3, 0, ⟨#[]⟩⟩] exL 3 0 = some (.inr (.inr (⟨2, 1, [⟨1, 0, ⟨#[]⟩⟩, ⟨3, 0, ⟨#[]⟩⟩]⟩, 4))) := by
    unfold m_plog_Put_s2
    rw [m_Term _ _ exB]
    rfl
  rw [hs]
  rfl
theorem put2 : m_plog_Put exL 3 [⟨2, 0, ⟨#[]⟩⟩, ⟨2, 0, ⟨#[]⟩⟩] = some (⟨2, 1, [⟨1, 0, ⟨#[]⟩⟩, ⟨2, 0, ⟨#[]⟩⟩, ⟨2, 0, ⟨#[]⟩⟩]⟩, 5) := by
  unfold m_plog_Put
  rw [if_neg (by decide), m_Last _ exB, loop_unfold]
  have hs : m_plog_Put_s2 [⟨2, 0, ⟨#[]⟩⟩, ⟨2, 0, ⟨#[]⟩⟩] exL 3 0 = some (.inl 1) := by
    unfold m_plog_Put_s2
    rw [m_Term _ _ exB]
    rfl
  have hs2 : m_plog_Put_s2 [⟨2, 0, ⟨#[]⟩⟩, ⟨2, 0, ⟨#[]⟩⟩] exL 3 1 = some (.inr (.inr (⟨2, 1, [⟨1, 0, ⟨#[]⟩⟩, ⟨2, 0, ⟨#[]⟩⟩, ⟨2, 0, ⟨#[]⟩⟩]⟩, 5))) := by
    unfold m_plog_Put_s2
    rw [m_Term _ _ exB]
    rfl
  rw [hs]
  simp only [Option.bind_some, Sum.elim_inl]
  rw [loop_unfold, hs2]
  rfl
theorem newer_eq (l : GLog) (a b : Int) (h : okB l) : m_plog_Newer l a b = some (if (termP l (l.fBase + l.fEntries.length)).1 < b then true else if b = (termP l (l.fBase + l.fEntries.length)).1 then decide (l.fBase + l.fEntries.length ≤ a) else false) := by
  unfold m_plog_Newer
  rw [m_Last l h]
  simp only [Option.bind_some]
  rw [m_Term l _ h]
  simp only [Option.bind_some]
  repeat' split
  all_goals rfl
theorem data15 : m_plog_Data [1, 5] = some ⟨#[1, 5]⟩ := by
  unfold m_plog_Data
  have h0 : mkL 1 (([1, 5] : List Int).length : Int) (0 : Int) = some [0, 0] := rfl
  rw [h0]
  simp only [Option.bind_some]
  have h1 : m_plog_Data_s2 [1, 5] [0, 0] 0 = some (.inl ([1, 0], 1)) := rfl
  have h2 : m_plog_Data_s2 [1, 5] [1, 0] 1 = some (.inl ([1, 5], 2)) := rfl
  have h3 : m_plog_Data_s2 [1, 5] [1, 5] 2 = some (.inr [1, 5]) := rfl
  rw [loop_inl (step := fun s => m_plog_Data_s2 [1, 5] s.1 s.2) h1, loop_inl (step := fun s => m_plog_Data_s2 [1, 5] s.1 s.2) h2, loop_inr (step := fun s => m_plog_Data_s2 [1, 5] s.1 s.2) h3]
  rfl
theorem awake11 : m_law11_awake = some true := by
  unfold m_law11_awake
  rw [show m_law11_example = some exL from rfl]
  simp only [Option.bind_some]
  rw [m_Term _ _ exB, m_Term _ _ exB, m_Term _ _ exB]
  simp only [Option.bind_some]
  rw [show m_plog_Put exL 3 _ = _ from put1, show m_plog_Put exL 3 _ = _ from put2, m_Last _ exB]
  simp only [Option.bind_some]
  rw [newer_eq _ _ _ exB, newer_eq _ _ _ exB, newer_eq _ _ _ exB, data15]
  rfl
open Go.RowKit
/-! ### Bytes -/
theorem str_append (a b : List Int) : strOfNums (a ++ b) = strOfNums a ++ strOfNums b := by
  unfold strOfNums
  apply ByteArray.ext
  simp [ByteArray.data_append]
theorem str_bytes (s : ByteArray) : strOfNums (bytesI s) = s := bytesI_inj (bytesI_str (bytesI_range s))
theorem str_size (l : List Int) : (strOfNums l).size = l.length := by simp [strOfNums, ByteArray.size]
/-- A number's eight bytes. -/
def be8 (n : Int) : List Int := (List.range 8).map fun i => (n / (2 : Int) ^ (56 - 8 * i)) % 256
theorem be8_len (n : Int) : (be8 n).length = 8 := by simp [be8]
theorem be8s_len (ns : List Int) : (ns.flatMap be8).length = 8 * ns.length := by
  induction ns with
  | nil => rfl
  | cons a l ih => rw [List.flatMap_cons, List.length_append, ih, be8_len, List.length_cons]; omega
theorem be8_take (n : Int) (k : Nat) (h : k < 8) : (be8 n).take (k + 1) = (be8 n).take k ++ [(n / (2 : Int) ^ (56 - 8 * k)) % 256] := by
  rw [List.take_succ_eq_append_getElem (by rw [be8_len]; exact h)]
  simp [be8]
theorem num_inner (n : Int) (l : List Int) (hl : l.length ≤ 1000000) : loop (fun s => m_plog_numbers_s4 n s.1 s.2) (l, 0) = some (l ++ be8 n) := by
  refine loop_run 8 (fun k => (l ++ (be8 n).take k, (k : Int))) _ (by simp) (fun k hk => ?_) ?_
  · show m_plog_numbers_s4 n _ _ = _
    unfold m_plog_numbers_s4
    rw [if_pos (by omega), w64_id (x := 8 * (k : Int)) (by omega) (by omega), w64_id (x := 56 - 8 * (k : Int)) (by omega) (by omega), w64_id (x := (k : Int) + 1) (by omega) (by omega)]
    unfold shOk
    rw [if_pos (by omega)]
    simp only [Option.bind_some]
    unfold shrI
    rw [wu8_eq, show min (56 - 8 * (k : Int)).toNat IntKind.i64.bits = 56 - 8 * k from by rw [show IntKind.i64.bits = 64 from rfl]; omega, app_of (by simp only [List.length_append, List.length_take, List.length_cons, List.length_nil]; omega), be8_take n k hk]
    simp
  · show m_plog_numbers_s4 n _ _ = _
    unfold m_plog_numbers_s4
    rw [if_neg (by omega), List.take_of_length_le (by rw [be8_len]; omega)]
theorem m_numbers (l ns : List Int) (hl : l.length + 8 * ns.length ≤ 1000000) : m_plog_numbers l ns = some (l ++ ns.flatMap be8) := by
  unfold m_plog_numbers
  have hlen : ∀ k, ((ns.take k).flatMap be8).length = 8 * min k ns.length := fun k => by rw [be8s_len, List.length_take]
  have hL : loop (fun s => m_plog_numbers_s2 ns s.1 s.2) (l, 0) = some (l ++ ns.flatMap be8) := by
    refine loop_run ns.length (fun k => (l ++ (ns.take k).flatMap be8, (k : Int))) _ (by simp) (fun k hk => ?_) ?_
    · show m_plog_numbers_s2 ns _ _ = _
      unfold m_plog_numbers_s2
      have h1 := hlen k
      rw [if_pos (by omega), at_getD hk]
      simp only [Option.bind_some]
      rw [num_inner _ _ (by rw [List.length_append]; omega)]
      simp only [Option.bind_some, m_plog_numbers_j3]
      rw [w64_id (x := (k : Int) + 1) (by omega) (by omega), List.take_succ_eq_append_getElem hk, List.flatMap_append, List.getD_eq_getElem?_getD, List.getElem?_eq_getElem hk]
      simp
    · show m_plog_numbers_s2 ns _ _ = _
      unfold m_plog_numbers_s2
      rw [if_neg (by omega), List.take_length]
  rw [hL]; rfl
theorem m_Data (vs : List Int) (hl : vs.length ≤ 1000000) : m_plog_Data vs = some (strOfNums (vs.map (· % 256))) := by
  unfold m_plog_Data
  unfold mkL
  rw [if_pos (by omega)]
  simp only [Option.bind_some]
  have hL : loop (fun s => m_plog_Data_s2 vs s.1 s.2) (List.replicate (vs.length : Int).toNat (0 : Int), 0) = some (vs.map (· % 256)) := by
    refine loop_run vs.length (fun k => ((vs.take k).map (· % 256) ++ List.replicate (vs.length - k) 0, (k : Int))) _ (by simp) (fun k hk => ?_) ?_
    · show m_plog_Data_s2 vs _ _ = _
      unfold m_plog_Data_s2
      rw [if_pos (by omega), at_getD hk]
      simp only [Option.bind_some]
      have hlen : ((vs.take k).map (· % 256) ++ List.replicate (vs.length - k) (0 : Int)).length = vs.length := by simp; omega
      rw [at_getD (by rw [hlen]; exact hk)]
      simp only [Option.bind_some]
      unfold setAt
      rw [if_pos (by rw [hlen]; omega), wu8_eq, w64_id (x := (k : Int) + 1) (by omega) (by omega)]
      simp only [Option.bind_some, Option.some.injEq, Sum.inl.injEq, Prod.mk.injEq]
      refine ⟨?_, by omega⟩
      rw [Int.toNat_natCast, show vs.length - k = (vs.length - (k + 1)) + 1 from by omega, List.replicate_succ, List.take_succ_eq_append_getElem hk, List.map_append, List.getD_eq_getElem?_getD, List.getElem?_eq_getElem hk]
      rw [List.set_append_right _ _ (by simp; omega)]
      simp [Nat.min_eq_left (Nat.le_of_lt hk)]
    · show m_plog_Data_s2 vs _ _ = _
      unfold m_plog_Data_s2
      rw [if_neg (by omega)]
      simp
  rw [hL]; rfl
theorem m_SameInts (a b : List Int) (hl : a.length ≤ 1000000) : m_ref11_SameInts a b = some (decide (a = b)) := by
  unfold m_ref11_SameInts
  by_cases hab : (a.length : Int) = b.length
  · rw [if_neg (by omega)]
    have hstep : ∀ k, k < a.length → m_ref11_SameInts_s2 a b (k : Int) = if a.getD k 0 = b.getD k 0 then some (.inl ((k + 1 : Nat) : Int)) else some (.inr (.inr false)) := fun k hk => by
      unfold m_ref11_SameInts_s2
      rw [if_pos (by omega), at_getD hk, at_getD (by omega), w64_id (x := (k : Int) + 1) (by omega) (by omega)]
      simp only [Option.bind_some]
      by_cases h : a.getD k 0 = b.getD k 0
      · rw [if_neg (fun hn => hn h), if_pos h]; rfl
      · rw [if_pos h, if_neg h]
    have hend : m_ref11_SameInts_s2 a b (a.length : Int) = some (.inr (.inl ())) := by
      unfold m_ref11_SameInts_s2; rw [if_neg (by omega)]
    by_cases hg : ∀ k, k < a.length → a.getD k 0 = b.getD k 0
    · have hL : loop (fun s => m_ref11_SameInts_s2 a b s) 0 = some (.inl ()) := loop_run a.length (fun k => (k : Int)) _ rfl (fun k hk => by rw [hstep k hk, if_pos (hg k hk)]) hend
      rw [hL]
      have : a = b := List.ext_getElem (by omega) fun j h1 h2 => by
        have := hg j h1
        rw [List.getD_eq_getElem?_getD, List.getD_eq_getElem?_getD, List.getElem?_eq_getElem h1, List.getElem?_eq_getElem h2] at this
        exact this
      simp [this, m_ref11_SameInts_j1]
    · obtain ⟨n, hn, hng, hgo⟩ := first_not hg
      have hL : loop (fun s => m_ref11_SameInts_s2 a b s) 0 = some (.inr false) := loop_run n (fun k => (k : Int)) _ rfl (fun k hk => by rw [hstep k (by omega), if_pos (hgo k hk)]) (by rw [hstep n hn, if_neg hng])
      rw [hL]
      have : a ≠ b := fun h => hng (by rw [h])
      simp [this]
  · rw [if_pos hab]
    have : a ≠ b := fun h => hab (by rw [h])
    simp [this]
theorem m_Equal (a b : List Int) (hl : a.length ≤ 1000000) : m_slices_Equal_21 a b = some (decide (a = b)) := m_SameInts a b hl
/-- The record of the k-th entry. -/
def recE (l : GLog) (k : Nat) : ByteArray := strOfNums ([69] ++ [l.fBase + 1 + k, (l.fEntries.getD k zeroE).fTerm].flatMap be8 ++ [(l.fEntries.getD k zeroE).fKind % 256] ++ bytesI (l.fEntries.getD k zeroE).fData)
def recsE (l : GLog) (k : Nat) : List ByteArray := (List.range (l.fEntries.length - k)).map fun i => recE l (k + i)
theorem m_entry (l : GLog) (k : Nat) (hk : k < l.fEntries.length) (h : okB l) (hd : (l.fEntries.getD k zeroE).fData.size ≤ 100000) : m_plog_entry l (k : Int) = some (recE l k) := by
  have h1 := h.lo; have h2 := h.hi; have h3 := h.len
  unfold m_plog_entry
  rw [at_getE hk, w64_id (x := l.fBase + 1) (by omega) (by omega), w64_id (x := l.fBase + 1 + k) (by omega) (by omega)]
  unfold recE
  generalize l.fEntries.getD k zeroE = e at *
  simp only [Option.bind_some]
  rw [m_numbers _ _ (by simp)]
  simp only [Option.bind_some]
  have hb : ([l.fBase + 1 + (k : Int), e.fTerm].flatMap be8).length = 16 := by rw [be8s_len]; rfl
  rw [app_of (by simp only [List.length_append, List.length_cons, List.length_nil, hb]; omega)]
  simp only [Option.bind_some]
  rw [app_of (by simp only [List.length_append, List.length_cons, List.length_nil, hb, bytesI_length]; omega)]
  simp only [Option.bind_some, wu8_eq]
/-- A log whose records are short, and few. -/
structure okR (l : GLog) : Prop where
  b : okB l
  len : l.fEntries.length ≤ 1000
  data : ∀ k, k < l.fEntries.length → (l.fEntries.getD k zeroE).fData.size ≤ 100000
theorem recsE_succ (l : GLog) (k d : Nat) : ((List.range (d + 1)).map fun i => recE l (k + i)) = ((List.range d).map fun i => recE l (k + i)) ++ [recE l (k + d)] := by
  rw [List.range_succ, List.map_append]; rfl
theorem m_entries (l : GLog) (k : Nat) (hk : k ≤ l.fEntries.length) (h : okR l) : m_plog_entries l (k : Int) = some (recsE l k) := by
  have h1 := h.len
  unfold m_plog_entries
  rw [w64_id (by omega) (by omega)]
  have hL : loop (fun s => m_plog_entries_s2 l (k : Int) s.1 s.2.1 s.2.2) (([] : List ByteArray), (l.fEntries.length : Int) - k, 0) = some (recsE l k) := by
    refine loop_run (l.fEntries.length - k) (fun j => ((List.range j).map fun i => recE l (k + i), (l.fEntries.length : Int) - k, (j : Int))) _ (by simp) (fun j hj => ?_) ?_
    · show m_plog_entries_s2 l (k : Int) ((List.range j).map fun i => recE l (k + i)) ((l.fEntries.length : Int) - k) (j : Int) = _
      unfold m_plog_entries_s2
      rw [if_pos (by omega), w64_id (x := (k : Int) + j) (by omega) (by omega), show (k : Int) + j = ((k + j : Nat) : Int) from by omega, m_entry l (k + j) (by omega) h.b (h.data _ (by omega)), w64_id (x := (j : Int) + 1) (by omega) (by omega)]
      simp only [Option.bind_some]
      rw [app_of (by simp; omega)]
      simp only [Option.bind_some]
      rw [recsE_succ]
      rfl
    · show m_plog_entries_s2 l (k : Int) ((List.range (l.fEntries.length - k)).map fun i => recE l (k + i)) ((l.fEntries.length : Int) - k) ((l.fEntries.length - k : Nat) : Int) = _
      unfold m_plog_entries_s2
      rw [if_neg (by omega)]
      rfl
  rw [hL]; rfl
/-- The first record of all anew. -/
def wholeB (h : GHard) : ByteArray := strOfNums ([87] ++ [h.fTerm, h.fVote, h.fLog.fBase, h.fLog.fBaseTerm, (h.fVoters.length : Int)].flatMap be8 ++ h.fVoters.map (· % 256) ++ [(h.fSnap.size : Int)].flatMap be8 ++ bytesI h.fSnap)
def wholeR (h : GHard) : List ByteArray := wholeB h :: recsE h.fLog 0
structure okH (h : GHard) : Prop where
  log : okR h.fLog
  voters : h.fVoters.length ≤ 1000
  snap : h.fSnap.size ≤ 100000
theorem mod_range (vs : List Int) : ∀ x ∈ vs.map (· % 256), 0 ≤ x ∧ x ≤ 255 := by
  intro x hx
  obtain ⟨y, _, rfl⟩ := List.mem_map.1 hx
  omega
theorem recsE_len (l : GLog) (k : Nat) : (recsE l k).length = l.fEntries.length - k := by simp [recsE]
theorem m_anew (h : GHard) (ho : okH h) : m_plog_anew h = some (wholeR h) := by
  have h1 := ho.voters; have h2 := ho.snap; have h3 := ho.log.len
  unfold m_plog_anew
  rw [m_numbers _ _ (by simp)]
  simp only [Option.bind_some]
  rw [m_Data _ (by omega)]
  simp only [Option.bind_some]
  rw [bytesI_str (mod_range _), app_of (by simp only [List.length_append, be8s_len, List.length_map, List.length_cons, List.length_nil]; omega)]
  simp only [Option.bind_some]
  rw [m_numbers _ _ (by simp only [List.length_append, be8s_len, List.length_map, List.length_cons, List.length_nil]; omega)]
  simp only [Option.bind_some, m_plog_anew_j1]
  rw [app_of (by simp only [List.length_append, be8s_len, List.length_map, List.length_cons, List.length_nil, bytesI_length]; omega), show m_plog_entries h.fLog 0 = _ from m_entries h.fLog 0 (Nat.zero_le _) ho.log]
  simp only [Option.bind_some]
  rw [app_of (by simp only [recsE_len, List.length_cons, List.length_nil]; omega)]
  rfl
def tameV (vs : List Int) : List Int := if 70 < (vs.length : Int) then vs.take 70 else vs
def tameS (s : ByteArray) : ByteArray := if 200 < (s.size : Int) then s.extract 0 200 else s
def tameP (h : GHard) : GHard := ⟨h.fTerm, h.fVote, tameV h.fVoters, tameS h.fSnap, smallP h.fLog⟩
theorem tameV_len (vs : List Int) : (tameV vs).length ≤ 70 := by
  unfold tameV; split
  · rw [List.length_take]; omega
  · omega
theorem tameS_len (s : ByteArray) : (tameS s).size ≤ 200 := by
  unfold tameS; split
  · rw [ByteArray.size_extract]; omega
  · omega
theorem m_tame (h : GHard) : m_law11_tame h = some (tameP h) := by
  unfold m_law11_tame
  rw [m_small]
  simp only [Option.bind_some]
  have hj : ∀ l, m_law11_tame_j1 h (smallP h.fLog) l = some ⟨h.fTerm, h.fVote, l, tameS h.fSnap, smallP h.fLog⟩ := by
    intro l
    unfold m_law11_tame_j1 tameS
    by_cases c : 200 < (h.fSnap.size : Int)
    · rw [if_pos c, if_pos c]; unfold scutHi; rw [if_pos (by omega)]; rfl
    · rw [if_neg c, if_neg c]; rfl
  unfold tameP tameV
  by_cases c : 70 < (h.fVoters.length : Int)
  · rw [if_pos c, if_pos c]; unfold cutHi; rw [if_pos (by omega)]; simp only [Option.bind_some]; rw [hj]; rfl
  · rw [if_neg c, if_neg c, hj]
/-! ### Numbers read -/
def val8 (s : ByteArray) : Nat → Int
  | 0 => 0
  | k + 1 => val8 s k * 256 + byteAt s k
theorem val8_bound (s : ByteArray) : ∀ k, 0 ≤ val8 s k ∧ val8 s k < 256 ^ k
  | 0 => by simp [val8]
  | k + 1 => by
    have h := val8_bound s k
    have hb := byteAt_lt s k
    have hp : (256 : Int) ^ (k + 1) = 256 ^ k * 256 := Int.pow_succ ..
    unfold val8
    omega
theorem or_add (a b : Int) (ha : 0 ≤ a) (ha2 : a < 72057594037927936) (hb : 0 ≤ b ∧ b ≤ 255) : orI .u64 (a * 256) b = a * 256 + b := by
  obtain ⟨m, rfl⟩ := Int.eq_ofNat_of_zero_le ha
  obtain ⟨n, rfl⟩ := Int.eq_ofNat_of_zero_le hb.1
  unfold orI
  have h1 : BitVec.ofInt IntKind.u64.bits ((m : Int) * 256) = BitVec.ofNat 64 (m * 256) := by
    rw [show (m : Int) * 256 = ((m * 256 : Nat) : Int) by omega]; exact BitVec.ofInt_natCast ..
  have h2 : BitVec.ofInt IntKind.u64.bits (n : Int) = BitVec.ofNat 64 n := BitVec.ofInt_natCast ..
  rw [h1, h2]
  have h3 : ((BitVec.ofNat 64 (m * 256) ||| BitVec.ofNat 64 n).toNat : Nat) = m * 256 + n := by
    rw [BitVec.toNat_or, BitVec.toNat_ofNat, BitVec.toNat_ofNat, Nat.mod_eq_of_lt (by omega), Nat.mod_eq_of_lt (by omega)]
    have := Nat.two_pow_add_eq_or_of_lt (i := 8) (b := n) (by omega) m
    rw [Nat.mul_comm m 256]
    exact this.symm
  have e : IntKind.u64.wrap (((BitVec.ofNat 64 (m * 256) ||| BitVec.ofNat 64 n).toNat : Nat) : Int) = IntKind.u64.wrap ((m * 256 + n : Nat) : Int) := congrArg (fun z : Nat => IntKind.u64.wrap (z : Int)) h3
  exact e.trans (by rw [wrapu64 (by omega) (by omega)]; omega)
def takeR (n : Int) (s : ByteArray) (b : Bool) : ByteArray × ByteArray × Bool := if n < 0 ∨ (s.size : Int) < n then (⟨#[]⟩, s, true) else (s.extract 0 n.toNat, s.extract n.toNat s.size, b)
theorem m_take (n : Int) (s : ByteArray) (b : Bool) : m_plog_read_c1 n s b = some (takeR n s b) := by
  unfold m_plog_read_c1 takeR
  by_cases h1 : n < 0
  · rw [if_pos h1, if_pos (.inl h1)]
  · rw [if_neg h1]
    by_cases h2 : (s.size : Int) < n
    · rw [if_pos h2, if_pos (.inr h2)]
    · rw [if_neg h2, if_neg (by omega)]
      unfold scutHi scutLo
      rw [if_pos (by omega), if_pos (by omega)]; rfl
theorem takeR_size (n : Int) (s : ByteArray) (b : Bool) : ((takeR n s b).1.size = 0 ∨ ((takeR n s b).1.size : Int) = n) ∧ (takeR n s b).1.size ≤ s.size ∧ (takeR n s b).2.1.size ≤ s.size := by
  unfold takeR
  split
  · exact ⟨.inl rfl, Nat.zero_le _, Nat.le_refl _⟩
  · simp only [ByteArray.size_extract]
    omega
def numR (s : ByteArray) (b : Bool) : Int × Bool × ByteArray :=
  if 2199023255552 ≤ val8 (takeR 8 s b).1 (takeR 8 s b).1.size then (0, true, (takeR 8 s b).2.1) else (val8 (takeR 8 s b).1 (takeR 8 s b).1.size, (takeR 8 s b).2.2, (takeR 8 s b).2.1)
theorem m_num (b : Bool) (s : ByteArray) : m_plog_read_c2 b s = some (numR s b) := by
  unfold m_plog_read_c2
  rw [m_take]
  simp only [Option.bind_some]
  generalize ht : takeR 8 s b = t
  have hsz : t.1.size ≤ 8 := by have := (takeR_size 8 s b).1; rw [ht] at this; omega
  have hL : loop (fun x => m_plog_read_c2_s2 t.1 x.1 x.2) (0, 0) = some (val8 t.1 t.1.size) := by
    refine loop_run t.1.size (fun k => (val8 t.1 k, (k : Int))) _ rfl (fun k hk => ?_) ?_
    · show m_plog_read_c2_s2 t.1 _ _ = _
      unfold m_plog_read_c2_s2
      have hv := val8_bound t.1 k
      have hv2 : (256 : Int) ^ k ≤ 256 ^ 7 := by
        have := Nat.pow_le_pow_right (n := 256) (by decide) (show k ≤ 7 by omega)
        exact_mod_cast this
      have hb := byteAt_lt t.1 k
      rw [bytesI_length, if_pos (by omega), ← sat_eq_at, sat_of (by omega) (by omega)]
      simp only [Option.bind_some]
      rw [wrapu64 (x := val8 t.1 k * 256) (by omega) (by omega), wrapu64 (x := byteAt t.1 k) (by omega) (by omega), or_add _ _ (by omega) (by omega) hb, w64_id (x := (k : Int) + 1) (by omega) (by omega)]
      rfl
    · show m_plog_read_c2_s2 t.1 _ _ = _
      unfold m_plog_read_c2_s2
      rw [bytesI_length, if_neg (by omega)]
  rw [hL]
  simp only [Option.bind_some, m_plog_read_c2_j1, numR, ht]
  have hv := val8_bound t.1 t.1.size
  by_cases h : 2199023255552 ≤ val8 t.1 t.1.size
  · rw [if_pos h, if_pos h]
  · rw [if_neg h, if_neg h, w64_id (by omega) (by omega)]
theorem val8_eight (s : ByteArray) : val8 s 8 = (((((((byteAt s 0 * 256 + byteAt s 1) * 256 + byteAt s 2) * 256 + byteAt s 3) * 256 + byteAt s 4) * 256 + byteAt s 5) * 256 + byteAt s 6) * 256 + byteAt s 7) := by
  simp [val8]
theorem right_step (l : List Int) (k : Nat) (hl : l.length ≤ 9223372036854775807) : m_ref11_Right_s2 l (k : Int) = if k < l.length then (if good l k then some (.inl ((k + 1 : Nat) : Int)) else some (.inr (.inr false))) else some (.inr (.inl ())) := by
  unfold m_ref11_Right_s2
  by_cases hk : k < l.length
  · rw [if_pos (by omega), if_pos hk, at_getD hk]
    simp only [Option.bind_some]
    rw [w64_id (x := (k : Int) + 1) (by omega) (by omega)]
    by_cases h1 : l.getD k 0 < 0
    · rw [if_pos h1, if_neg (fun h => by have := h.1; omega)]
    · rw [if_neg h1]
      by_cases h2 : 63 < l.getD k 0
      · rw [if_pos h2, if_neg (fun h => by have := h.2.1; omega)]
      · rw [if_neg h2]
        by_cases h3 : (0 : Int) < k
        · rw [if_pos h3, w64_id (x := (k : Int) - 1) (by omega) (by omega), show (k : Int) - 1 = ((k - 1 : Nat) : Int) by omega, at_getD (by omega)]
          simp only [Option.bind_some]
          by_cases h4 : l.getD k 0 ≤ l.getD (k - 1) 0
          · rw [if_pos h4, if_neg (fun h => by have := h.2.2 (by omega); omega)]
          · rw [if_neg h4, if_pos ⟨by omega, by omega, fun _ => by omega⟩]; rfl
        · rw [if_neg h3, if_pos ⟨by omega, by omega, fun _ => by omega⟩]; rfl
  · rw [if_neg (by omega), if_neg hk]
theorem m_Right (l : List Int) (hl : l.length ≤ 9223372036854775807) : m_ref11_Right l = some (risingP l) := by
  unfold m_ref11_Right
  by_cases hg : ∀ k, k < l.length → good l k
  · have hL : loop (fun s => m_ref11_Right_s2 l s) 0 = some (.inl ()) := loop_run l.length (fun k => (k : Int)) _ rfl (fun k hk => by rw [right_step l k hl, if_pos hk, if_pos (hg k hk)]) (by rw [right_step l _ hl, if_neg (by omega)])
    rw [hL]
    simp only [Option.bind_some, Sum.elim_inl, m_ref11_Right_j1, risingP, Option.some.injEq, decide_eq_decide]
    constructor
    · intro h; exact ⟨by omega, hg⟩
    · intro h; omega
  · obtain ⟨n, hn, hng, hgo⟩ := first_not hg
    have hL : loop (fun s => m_ref11_Right_s2 l s) 0 = some (.inr false) := loop_run n (fun k => (k : Int)) _ rfl (fun k hk => by rw [right_step l k hl, if_pos (by omega), if_pos (hgo k hk)]) (by rw [right_step l _ hl, if_pos hn, if_neg hng])
    rw [hL]
    simp only [Option.bind_some, Sum.elim_inr, risingP, Option.some.injEq]
    exact (decide_eq_false (fun h => hng (h.2 n hn))).symm
def zeroH : GHard := ⟨0, 0, [], ⟨#[]⟩, ⟨0, 0, []⟩⟩
abbrev LSt := Int × Int × Int × (List Int) × ByteArray × Int × Int × (List GEntry)
abbrev LOut := (Int × Int × (List Int) × ByteArray × Int × Int × (List GEntry)) ⊕ (GHard × Int)
theorem bytesI_none : bytesI (⟨#[]⟩ : ByteArray) = [] := rfl
theorem m_SameH (h : GHard) (h1 : h.fVoters.length ≤ 1000000) (h2 : h.fLog.fEntries.length ≤ 140737488355328) : m_ref11_Same h h = some true := by
  unfold m_ref11_Same
  rw [m_SameLog _ h2, m_SameInts _ _ h1]
  simp
def stOf (i : Int) (h : GHard) : LSt := (i, h.fTerm, h.fVote, h.fVoters, h.fSnap, h.fLog.fBase, h.fLog.fBaseTerm, h.fLog.fEntries)
noncomputable def stepA (L : List ByteArray) (s : LSt) : Option (LSt ⊕ LOut) := m_plog_Load_s2 L s.1 s.2.1 s.2.2.1 s.2.2.2.1 s.2.2.2.2.1 s.2.2.2.2.2.1 s.2.2.2.2.2.2.1 s.2.2.2.2.2.2.2
/-! ### What is written, read again -/
theorem take_app (a b : ByteArray) (n : Int) (hn : n = a.size) (z : Bool) : takeR n (a ++ b) z = (a, b, z) := by
  subst hn
  have hs : (a ++ b).size = a.size + b.size := ByteArray.size_append
  unfold takeR
  rw [if_neg (by rw [hs]; omega)]
  have h1 : (a ++ b).extract 0 ((a.size : Int)).toNat = a := bytesI_inj (by
    rw [bytesI_extract, bytesI_append, Int.toNat_natCast, size_bytes a, List.take_left, List.drop_zero])
  have h2 : (a ++ b).extract ((a.size : Int)).toNat (a ++ b).size = b := bytesI_inj (by
    rw [bytesI_extract, bytesI_append, Int.toNat_natCast, size_bytes (a ++ b), bytesI_append, List.take_length, size_bytes a, List.drop_left])
  rw [h1, h2]
theorem be8_range (n : Int) : ∀ x ∈ be8 n, 0 ≤ x ∧ x ≤ 255 := by
  intro x hx
  obtain ⟨i, _, rfl⟩ := List.mem_map.1 hx
  omega
theorem byte_str (l : List Int) (hl : ∀ x ∈ l, 0 ≤ x ∧ x ≤ 255) (k : Nat) (hk : k < l.length) : byteAt (strOfNums l) k = l[k] := by
  have h := bytesI_get (strOfNums l) k (by rw [str_size]; exact hk)
  rw [← h]
  simp only [bytesI_str hl]
theorem val_be8 (n : Int) (h0 : 0 ≤ n) (h1 : n < 2199023255552) : val8 (strOfNums (be8 n)) 8 = n := by
  rw [val8_eight]
  have hb : ∀ k : Nat, k < 8 → byteAt (strOfNums (be8 n)) k = (n / (2 : Int) ^ (56 - 8 * k)) % 256 := fun k hk => by
    rw [byte_str _ (be8_range n) k (by rw [be8_len]; exact hk)]
    simp [be8]
  have e0 := hb 0 (by decide)
  have e1 := hb 1 (by decide)
  have e2 := hb 2 (by decide)
  have e3 := hb 3 (by decide)
  have e4 := hb 4 (by decide)
  have e5 := hb 5 (by decide)
  have e6 := hb 6 (by decide)
  have e7 := hb 7 (by decide)
  simp only [Nat.reduceMul, Nat.reduceSub, Int.reducePow] at e0 e1 e2 e3 e4 e5 e6 e7
  rw [show ((0 : Nat) : Int) = 0 from rfl] at e0
  rw [show ((1 : Nat) : Int) = 1 from rfl] at e1
  rw [show ((2 : Nat) : Int) = 2 from rfl] at e2
  rw [show ((3 : Nat) : Int) = 3 from rfl] at e3
  rw [show ((4 : Nat) : Int) = 4 from rfl] at e4
  rw [show ((5 : Nat) : Int) = 5 from rfl] at e5
  rw [show ((6 : Nat) : Int) = 6 from rfl] at e6
  rw [show ((7 : Nat) : Int) = 7 from rfl] at e7
  rw [e0, e1, e2, e3, e4, e5, e6, e7]
  omega
theorem num_be8 (n : Int) (h0 : 0 ≤ n) (h1 : n < 2199023255552) (r : ByteArray) (z : Bool) : numR (strOfNums (be8 n) ++ r) z = (n, z, r) := by
  have hs : (strOfNums (be8 n)).size = 8 := by rw [str_size, be8_len]
  unfold numR
  rw [take_app _ _ _ (by rw [hs]; rfl)]
  simp only [hs, val_be8 n h0 h1]
  rw [if_neg (by omega)]
theorem cons_str (c : Int) (l : List Int) : strOfNums ([c] ++ l) = strOfNums [c] ++ strOfNums l := str_append _ _
/-- What a record's first byte and what stands behind it are. -/
theorem head_str (c : Int) (hc : 0 ≤ c ∧ c ≤ 255) (r : ByteArray) : scutLo (strOfNums [c] ++ r) 1 = some r ∧ sat_ (strOfNums [c] ++ r) 0 = some c := by
  have hs : (strOfNums [c] ++ r).size = 1 + r.size := by rw [ByteArray.size_append, str_size]; rfl
  have h1 : bytesI (strOfNums [c] ++ r) = c :: bytesI r := by rw [bytesI_append, bytesI_str (by intro x hx; rw [List.mem_singleton.1 hx]; exact hc)]; rfl
  constructor
  · unfold scutLo
    rw [if_pos (by omega)]
    congr 1
    exact bytesI_inj (by rw [bytesI_extract, size_bytes, List.take_length, h1]; rfl)
  · rw [sat_of (by omega) (by omega)]
    have h := bytesI_get (strOfNums [c] ++ r) 0 (by omega)
    rw [show ((0 : Nat) : Int) = 0 from rfl] at h
    rw [← h]
    simp only [h1]
    rfl
theorem read_T (h : GHard) (t v : Int) (ht : 0 ≤ t ∧ t < 2199023255552) (hv : 0 ≤ v ∧ v < 2199023255552) :
    m_plog_read h (strOfNums ([84] ++ be8 t ++ be8 v)) = some (⟨t, v, h.fVoters, h.fSnap, h.fLog⟩, true) := by
  rw [str_append, str_append, ByteArray.append_assoc]
  obtain ⟨c1, c2⟩ := head_str 84 (by decide) (strOfNums (be8 t) ++ strOfNums (be8 v))
  unfold m_plog_read
  rw [c1, c2]
  simp only [Option.bind_some]
  rw [if_neg (by decide), if_pos trivial]
  have hz : strOfNums (be8 v) = strOfNums (be8 v) ++ (⟨#[]⟩ : ByteArray) := bytesI_inj (by rw [bytesI_append, bytesI_none, List.append_nil])
  rw [hz]
  simp only [m_num, num_be8 t ht.1 ht.2, num_be8 v hv.1 hv.2, Option.bind_some]
  rw [if_neg (by decide)]
  rfl
/-- A place of a log, read: the log as it was up to it, and the entry. -/
theorem read_E (h : GHard) (l : GLog) (k : Nat) (hk : k < l.fEntries.length) (hb : l.fBase = h.fLog.fBase) (h0 : 0 ≤ h.fLog.fBase ∧ h.fLog.fBase ≤ 1099511627776) (hkl : k ≤ h.fLog.fEntries.length)
    (hlen : h.fLog.fEntries.length ≤ 1000) (hT : 0 ≤ (l.fEntries.getD k zeroE).fTerm ∧ (l.fEntries.getD k zeroE).fTerm < 2199023255552) (hK : 0 ≤ (l.fEntries.getD k zeroE).fKind ∧ (l.fEntries.getD k zeroE).fKind ≤ 255) :
    m_plog_read h (recE l k) = some (⟨h.fTerm, h.fVote, h.fVoters, h.fSnap, ⟨h.fLog.fBase, h.fLog.fBaseTerm, h.fLog.fEntries.take k ++ [l.fEntries.getD k zeroE]⟩⟩, true) := by
  unfold recE
  generalize l.fEntries.getD k zeroE = e at hT hK ⊢
  rw [show [l.fBase + 1 + (k : Int), e.fTerm].flatMap be8 = be8 (l.fBase + 1 + k) ++ be8 e.fTerm by simp, str_append, str_append, str_append, str_append, str_bytes]
  simp only [ByteArray.append_assoc]
  obtain ⟨c1, c2⟩ := head_str 69 (by decide) (strOfNums (be8 (l.fBase + 1 + k)) ++ (strOfNums (be8 e.fTerm) ++ (strOfNums [e.fKind % 256] ++ e.fData)))
  unfold m_plog_read
  rw [c1, c2]
  simp only [Option.bind_some]
  rw [if_neg (by decide), if_neg (by decide), if_pos trivial]
  simp only [m_num, num_be8 (l.fBase + 1 + k) (by omega) (by omega), num_be8 e.fTerm hT.1 hT.2, Option.bind_some, m_take]
  rw [take_app _ _ 1 (by rw [str_size]; rfl)]
  simp only
  have hx : byteAt (strOfNums [e.fKind % 256]) 0 = e.fKind := by
    have := byte_str [e.fKind % 256] (by intro x hx; rw [List.mem_singleton.1 hx]; omega) 0 (by simp)
    rw [show ((0 : Nat) : Int) = 0 from rfl] at this
    rw [this]
    show e.fKind % 256 = _
    omega
  rw [if_neg (by decide), if_neg (by omega)]
  simp only [m_plog_Last, Option.bind_some]
  rw [w64_id (x := h.fLog.fBase + (h.fLog.fEntries.length : Int)) (by omega) (by omega), w64_id (x := h.fLog.fBase + (h.fLog.fEntries.length : Int) + 1) (by omega) (by omega), if_neg (by omega), sat_of (by omega) (by rw [str_size]; simp), hx]
  simp only [Option.bind_some, m_plog_upto, m_plog_Add]
  rw [w64_id (x := l.fBase + 1 + (k : Int) - 1) (by omega) (by omega), w64_id (x := l.fBase + 1 + (k : Int) - 1 - h.fLog.fBase) (by omega) (by omega)]
  have hc : cutHi h.fLog.fEntries (l.fBase + 1 + (k : Int) - 1 - h.fLog.fBase) = some (h.fLog.fEntries.take k) := by
    unfold cutHi
    rw [if_pos (by omega), show (l.fBase + 1 + (k : Int) - 1 - h.fLog.fBase).toNat = k by omega]
  rw [hc]
  simp only [Option.bind_some]
  have hc2 : cutHi (h.fLog.fEntries.take k) (((h.fLog.fEntries.take k).length : Nat) : Int) = some (h.fLog.fEntries.take k) := by
    unfold cutHi
    rw [if_pos (by omega), Int.toNat_natCast, List.take_length]
  rw [hc2]
  simp only [Option.bind_some]
  rw [app_of (by simp only [List.length_take, List.length_cons, List.length_nil]; omega)]
  simp only [Option.bind_some, m_plog_read_j1]
  rw [w64_id (x := e.fKind) (by omega) (by omega)]
theorem bytes_mod (vs : List Int) (hv : ∀ x ∈ vs, 0 ≤ x ∧ x ≤ 255) : vs.map (· % 256) = vs := by
  induction vs with
  | nil => rfl
  | cons x xs ih =>
    have h := hv x (by simp)
    rw [List.map_cons, ih (fun y hy => hv y (by simp [hy]))]
    congr 1
    omega
theorem read_W (h n : GHard) (hT : 0 ≤ n.fTerm ∧ n.fTerm < 2199023255552) (hV : 0 ≤ n.fVote ∧ n.fVote < 2199023255552) (hB : 0 ≤ n.fLog.fBase ∧ n.fLog.fBase < 2199023255552) (hBT : 0 ≤ n.fLog.fBaseTerm ∧ n.fLog.fBaseTerm < 2199023255552)
    (hvs : risingP n.fVoters = true ∨ n.fVoters = []) (hr : ∀ x ∈ n.fVoters, 0 ≤ x ∧ x ≤ 255) (hvl : n.fVoters.length ≤ 1000) (hs : n.fSnap.size ≤ 50000) :
    m_plog_read h (wholeB n) = some (⟨n.fTerm, n.fVote, n.fVoters, n.fSnap, ⟨n.fLog.fBase, n.fLog.fBaseTerm, []⟩⟩, true) := by
  unfold wholeB
  rw [show [n.fTerm, n.fVote, n.fLog.fBase, n.fLog.fBaseTerm, (n.fVoters.length : Int)].flatMap be8 = be8 n.fTerm ++ (be8 n.fVote ++ (be8 n.fLog.fBase ++ (be8 n.fLog.fBaseTerm ++ be8 (n.fVoters.length : Int)))) by simp,
    show [(n.fSnap.size : Int)].flatMap be8 = be8 (n.fSnap.size : Int) by simp, bytes_mod _ hr]
  simp only [str_append, str_bytes, ByteArray.append_assoc]
  obtain ⟨c1, c2⟩ := head_str 87 (by decide) (strOfNums (be8 n.fTerm) ++ (strOfNums (be8 n.fVote) ++ (strOfNums (be8 n.fLog.fBase) ++ (strOfNums (be8 n.fLog.fBaseTerm) ++ (strOfNums (be8 (n.fVoters.length : Int)) ++ (strOfNums n.fVoters ++ (strOfNums (be8 (n.fSnap.size : Int)) ++ n.fSnap)))))))
  unfold m_plog_read
  rw [c1, c2]
  simp only [Option.bind_some]
  rw [if_pos trivial]
  simp only [m_num, num_be8 n.fTerm hT.1 hT.2, num_be8 n.fVote hV.1 hV.2, num_be8 n.fLog.fBase hB.1 hB.2, num_be8 n.fLog.fBaseTerm hBT.1 hBT.2, num_be8 (n.fVoters.length : Int) (by omega) (by omega), Option.bind_some, m_take]
  rw [take_app _ _ (n.fVoters.length : Int) (by rw [str_size])]
  simp only [m_num, num_be8 (n.fSnap.size : Int) (by omega) (by omega), Option.bind_some, m_take]
  rw [m_List _ (by rw [str_size]; omega)]
  simp only [Option.bind_some]
  have hz : n.fSnap = n.fSnap ++ (⟨#[]⟩ : ByteArray) := bytesI_inj (by rw [bytesI_append, bytesI_none, List.append_nil])
  have ht : takeR (n.fSnap.size : Int) n.fSnap false = (n.fSnap, ⟨#[]⟩, false) := by
    have := take_app n.fSnap ⟨#[]⟩ (n.fSnap.size : Int) rfl false
    rw [← hz] at this
    exact this
  rw [ht]
  simp only
  rw [if_neg (by decide), if_pos trivial]
  have hbv : bytesI (strOfNums n.fVoters) = n.fVoters := bytesI_str hr
  rcases hvs with hR | hE
  · have hl : listP (strOfNums n.fVoters) = (n.fVoters, true) := by unfold listP; rw [hbv, if_pos hR]
    rw [hl, if_pos rfl, decide_eq_true (p := (n.fSnap.size : Int) ≤ 50000) (by omega)]
  · have hl : listP (strOfNums n.fVoters) = ([], false) := by
      unfold listP; rw [hbv, hE, if_neg (by decide)]
    rw [hl, if_neg (by decide), if_pos (by rw [hE]; rfl), decide_eq_true (p := (n.fSnap.size : Int) ≤ 50000) (by omega), hE]
/-! ### Save, in closed form -/
theorem shared_pre (a b : List GEntry) (ha : a.length ≤ 1000) : ∃ k : Nat, k ≤ a.length ∧ k ≤ b.length ∧ (∀ i, i < k → a.getD i zeroE = b.getD i zeroE) ∧ loop (fun s => m_plog_shared_19_s2 a b s) 0 = some (k : Int) := by
  have hstep : ∀ k : Nat, m_plog_shared_19_s2 a b (k : Int) = if k < a.length ∧ k < b.length ∧ a.getD k zeroE = b.getD k zeroE then some (.inl ((k + 1 : Nat) : Int)) else some (.inr (k : Int)) := by
    intro k
    unfold m_plog_shared_19_s2
    by_cases c1 : k < a.length
    · rw [if_pos (by omega)]
      by_cases c2 : k < b.length
      · rw [if_pos (by omega), at_getE c1, at_getE c2, w64_id (x := (k : Int) + 1) (by omega) (by omega)]
        simp only [Option.bind_some]
        by_cases c3 : a.getD k zeroE = b.getD k zeroE
        · rw [if_pos c3, if_pos ⟨c1, c2, c3⟩]; rfl
        · rw [if_neg c3, if_neg (fun h => c3 h.2.2)]
      · rw [if_neg (by omega), if_neg (fun h => c2 h.2.1)]
    · rw [if_neg (by omega), if_neg (fun h => c1 h.1)]
  have : ∃ n : Nat, n ≤ a.length ∧ n ≤ b.length ∧ (∀ k, k < n → a.getD k zeroE = b.getD k zeroE) ∧ ¬ (n < a.length ∧ n < b.length ∧ a.getD n zeroE = b.getD n zeroE) := by
    by_cases hg : ∀ k, k < min a.length b.length → a.getD k zeroE = b.getD k zeroE
    · exact ⟨min a.length b.length, by omega, by omega, hg, by omega⟩
    · obtain ⟨n, h1, h2, h3⟩ := first_not hg
      exact ⟨n, by omega, by omega, h3, fun h => h2 h.2.2⟩
  obtain ⟨n, h1, h2, h3, h4⟩ := this
  exact ⟨n, h1, h2, h3, loop_run n (fun k => (k : Int)) _ rfl (fun k hk => by rw [hstep, if_pos ⟨by omega, by omega, h3 k hk⟩]) (by rw [hstep, if_neg h4])⟩
theorem take_eq {a b : List GEntry} {k : Nat} (ha : k ≤ a.length) (hb : k ≤ b.length) (h : ∀ i, i < k → a.getD i zeroE = b.getD i zeroE) : a.take k = b.take k := by
  apply List.ext_getElem
  · rw [List.length_take, List.length_take]; omega
  · intro i h1 h2
    rw [List.length_take] at h1 h2
    have := h i (by omega)
    rw [List.getD_eq_getElem?_getD, List.getD_eq_getElem?_getD, List.getElem?_eq_getElem (by omega), List.getElem?_eq_getElem (by omega)] at this
    rw [List.getElem_take, List.getElem_take]
    exact this
def recT (h : GHard) : ByteArray := strOfNums ([84] ++ be8 h.fTerm ++ be8 h.fVote)
def sameButLog (a b : GHard) : Prop := a.fLog.fBase = b.fLog.fBase ∧ a.fLog.fBaseTerm = b.fLog.fBaseTerm ∧ a.fSnap = b.fSnap ∧ a.fVoters = b.fVoters
theorem save_cases (old next : GHard) (h1 : okH old) (h2 : okH next) : m_plog_Save old next = some (wholeR next, true) ∨
    ∃ k, k ≤ next.fLog.fEntries.length ∧ k ≤ old.fLog.fEntries.length ∧ old.fLog.fEntries.take k = next.fLog.fEntries.take k ∧ (k = next.fLog.fEntries.length → old.fLog.fEntries.length ≤ k) ∧ sameButLog old next ∧
      ((m_plog_Save old next = some ([recT next] ++ recsE next.fLog k, false)) ∨ (old.fTerm = next.fTerm ∧ old.fVote = next.fVote ∧ m_plog_Save old next = some (recsE next.fLog k, false))) := by
  obtain ⟨k, hk1, hk2, hpre, hk⟩ := shared_pre old.fLog.fEntries next.fLog.fEntries h1.log.len
  have hsh : m_plog_shared_19 old.fLog.fEntries next.fLog.fEntries = some (k : Int) := by unfold m_plog_shared_19; rw [hk]; rfl
  have hv := h1.voters; have hl := h2.log.len
  unfold m_plog_Save
  rw [hsh]
  simp only [Option.bind_some, m_anew next h2]
  by_cases c1 : old.fLog.fBase ≠ next.fLog.fBase
  · exact .inl (by rw [if_pos c1])
  rw [if_neg c1]
  by_cases c2 : old.fLog.fBaseTerm ≠ next.fLog.fBaseTerm
  · exact .inl (by rw [if_pos c2])
  rw [if_neg c2, m_Equal _ _ (by omega)]
  simp only [Option.bind_some]
  by_cases c3 : old.fSnap = next.fSnap
  rotate_left
  · exact .inl (by rw [if_neg c3])
  rw [if_pos c3]
  by_cases c4 : old.fVoters = next.fVoters
  rotate_left
  · exact .inl (by rw [if_neg (by simpa using c4)])
  rw [if_pos (by simpa using c4 : decide (old.fVoters = next.fVoters) = true)]
  have tail : ∀ o : List ByteArray, o.length ≤ 1000 → m_plog_Save_j2 next (k : Int) o = some (o ++ recsE next.fLog k, false) := by
    intro o ho
    unfold m_plog_Save_j2
    rw [m_entries _ _ hk2 h2.log]
    simp only [Option.bind_some]
    rw [app_of (by rw [recsE_len]; omega)]
    rfl
  have term : m_plog_numbers [84] [next.fTerm, next.fVote] = some ([84] ++ be8 next.fTerm ++ be8 next.fVote) := by
    rw [m_numbers _ _ (by simp)]; simp
  have one : ∀ s : ByteArray, app 16 ([] : List ByteArray) [s] = some [s] := fun s => by rw [app_of (by simp)]; rfl
  have both : m_plog_Save_j1 old next (k : Int) = some ([recT next] ++ recsE next.fLog k, false) ∨ (old.fTerm = next.fTerm ∧ old.fVote = next.fVote ∧ m_plog_Save_j1 old next (k : Int) = some (recsE next.fLog k, false)) := by
    unfold m_plog_Save_j1
    rw [term]
    simp only [Option.bind_some, one]
    by_cases c5 : old.fTerm ≠ next.fTerm
    · exact .inl (by rw [if_pos c5]; exact tail [recT next] (by simp))
    · rw [if_neg c5]
      by_cases c6 : old.fVote ≠ next.fVote
      · exact .inl (by rw [if_pos c6]; exact tail [recT next] (by simp))
      · exact .inr ⟨Classical.not_not.1 c5, Classical.not_not.1 c6, by rw [if_neg c6]; exact tail [] (by simp)⟩
  have same : sameButLog old next := ⟨Classical.not_not.1 c1, Classical.not_not.1 c2, c3, c4⟩
  by_cases c7 : (k : Int) = (next.fLog.fEntries.length : Int)
  · rw [if_pos c7]
    by_cases c8 : (k : Int) < (old.fLog.fEntries.length : Int)
    · exact .inl (by rw [if_pos c8])
    · rw [if_neg c8]
      exact .inr ⟨k, hk2, hk1, take_eq hk1 hk2 hpre, fun _ => by omega, same, both⟩
  · rw [if_neg c7]
    exact .inr ⟨k, hk2, hk1, take_eq hk1 hk2 hpre, fun h => by omega, same, both⟩
/-! ### Records, read one behind the other -/
inductive Reads : GHard → List ByteArray → GHard → Prop
  | nil (h : GHard) : Reads h [] h
  | cons {h h' r : GHard} {x : ByteArray} {l : List ByteArray} : x ≠ (⟨#[]⟩ : ByteArray) → m_plog_read h x = some (h', true) → Reads h' l r → Reads h (x :: l) r
theorem Reads.append {a b c : GHard} {l m : List ByteArray} (h : Reads a l b) (h2 : Reads b m c) : Reads a (l ++ m) c := by
  induction h with
  | nil => exact h2
  | cons e1 e2 _ ih => exact .cons e1 e2 (ih h2)
theorem Reads.of_nil {a b : GHard} (h : Reads a [] b) : a = b := by cases h; rfl
/-- What all of a node's is, that may be written. -/
structure mayH (h : GHard) : Prop where
  ok : okH h
  term : 0 ≤ h.fTerm ∧ h.fTerm ≤ 1099511627776
  vote : 0 ≤ h.fVote ∧ h.fVote ≤ 1099511627776
  voters : risingP h.fVoters = true ∨ h.fVoters = []
  snap : h.fSnap.size ≤ 200
  base : 0 ≤ h.fLog.fBase ∧ h.fLog.fBase ≤ 1099511627776
  bterm : 0 ≤ h.fLog.fBaseTerm ∧ h.fLog.fBaseTerm ≤ 1099511627776
  len : h.fLog.fEntries.length ≤ 40
  ents : ∀ k, k < h.fLog.fEntries.length → entG (before h.fLog.fBaseTerm h.fLog.fEntries k) (h.fLog.fEntries.getD k zeroE)
theorem ne_empty {x : ByteArray} (h : 0 < x.size) : x ≠ (⟨#[]⟩ : ByteArray) := fun e => by subst e; exact absurd h (by decide)
theorem recE_ne (l : GLog) (k : Nat) : recE l k ≠ (⟨#[]⟩ : ByteArray) := ne_empty (by unfold recE; rw [str_size]; simp)
theorem recsE_cons (l : GLog) (k : Nat) (hk : k < l.fEntries.length) : recsE l k = recE l k :: recsE l (k + 1) := by
  unfold recsE
  rw [show l.fEntries.length - k = (l.fEntries.length - (k + 1)) + 1 by omega, List.range_succ_eq_map, List.map_cons, List.map_map]
  congr 1
  refine List.map_congr_left fun i _ => ?_
  show recE l (k + (i + 1)) = recE l (k + 1 + i)
  congr 1; omega
def withE (h : GHard) (l : List GEntry) : GHard := ⟨h.fTerm, h.fVote, h.fVoters, h.fSnap, ⟨h.fLog.fBase, h.fLog.fBaseTerm, l⟩⟩
theorem one_read (h n : GHard) (hn : mayH n) (hb : h.fLog.fBase = n.fLog.fBase) (k : Nat) (hk : k < n.fLog.fEntries.length) (hl : h.fLog.fEntries.length ≤ 1000) (hkl : k ≤ h.fLog.fEntries.length) (ht : h.fLog.fEntries.take k = n.fLog.fEntries.take k) :
    m_plog_read h (recE n.fLog k) = some (withE h (n.fLog.fEntries.take (k + 1)), true) := by
  have he := hn.ents k hk
  rw [read_E h n.fLog k hk hb.symm (by rw [hb]; exact hn.base) hkl hl ⟨he.2.1.1, by have := he.2.1.2; omega⟩ ⟨he.2.2.1, by have := he.2.2.2.1; omega⟩]
  unfold withE
  rw [ht, List.take_succ_eq_append_getElem hk]
  congr 7
  rw [List.getD_eq_getElem?_getD, List.getElem?_eq_getElem hk]; rfl
theorem recs_read (n : GHard) (hn : mayH n) : ∀ (d k : Nat) (h : GHard), k + d = n.fLog.fEntries.length → h.fLog.fBase = n.fLog.fBase → h.fLog.fEntries = n.fLog.fEntries.take k → Reads h (recsE n.fLog k) (withE h n.fLog.fEntries)
  | 0, k, h, hd, hb, he => by
    have : recsE n.fLog k = [] := List.eq_nil_of_length_eq_zero (by rw [recsE_len]; omega)
    rw [this]
    have h2 : withE h n.fLog.fEntries = h := by
      unfold withE
      rw [List.take_of_length_le (by omega)] at he
      rw [← he]
    rw [h2]; exact .nil h
  | d + 1, k, h, hd, hb, he => by
    have hlen := hn.len
    rw [recsE_cons _ _ (by omega)]
    have hl : h.fLog.fEntries.length = k := by rw [he, List.length_take]; omega
    refine .cons (recE_ne _ _) (one_read h n hn hb k (by omega) (by omega) (by omega) (by rw [he, List.take_take, Nat.min_self])) ?_
    exact recs_read n hn d (k + 1) (withE h (n.fLog.fEntries.take (k + 1))) (by omega) hb rfl
theorem recs_read' (h n : GHard) (hn : mayH n) (hb : h.fLog.fBase = n.fLog.fBase) (k : Nat) (hk : k ≤ n.fLog.fEntries.length) (hl : h.fLog.fEntries.length ≤ 1000) (hkl : k ≤ h.fLog.fEntries.length) (ht : h.fLog.fEntries.take k = n.fLog.fEntries.take k)
    (hx : k = n.fLog.fEntries.length → h.fLog.fEntries.length ≤ k) : Reads h (recsE n.fLog k) (withE h n.fLog.fEntries) := by
  by_cases c : k = n.fLog.fEntries.length
  · refine recs_read n hn 0 k h (by omega) hb ?_
    rw [← ht, List.take_of_length_le (hx c)]
  · rw [recsE_cons _ _ (by omega)]
    refine .cons (recE_ne _ _) (one_read h n hn hb k (by omega) hl hkl ht) ?_
    exact recs_read n hn (n.fLog.fEntries.length - (k + 1)) (k + 1) (withE h (n.fLog.fEntries.take (k + 1))) (by omega) hb rfl
theorem rising_range {l : List Int} (h : risingP l = true ∨ l = []) : ∀ x ∈ l, 0 ≤ x ∧ x ≤ 255 := by
  rcases h with h | rfl
  · intro x hx
    obtain ⟨k, hk, rfl⟩ := List.getElem_of_mem hx
    have hg := (of_decide_eq_true h).2 k hk
    have e : l.getD k 0 = l[k] := by rw [List.getD_eq_getElem?_getD, List.getElem?_eq_getElem hk]; rfl
    obtain ⟨g1, g2, _⟩ := hg
    rw [e] at g1 g2
    omega
  · intro x hx; cases hx
theorem whole_ne (h : GHard) : wholeB h ≠ (⟨#[]⟩ : ByteArray) := ne_empty (by unfold wholeB; rw [str_size]; simp)
theorem whole_read (h n : GHard) (hn : mayH n) : Reads h (wholeR n) n := by
  have h1 := hn.term; have h2 := hn.vote; have h3 := hn.base; have h4 := hn.bterm; have h5 := hn.snap; have h6 := hn.ok.voters
  refine .cons (whole_ne n) (read_W h n ⟨h1.1, by omega⟩ ⟨h2.1, by omega⟩ ⟨h3.1, by omega⟩ ⟨h4.1, by omega⟩ hn.voters (rising_range hn.voters) h6 (by omega)) ?_
  exact recs_read n hn n.fLog.fEntries.length 0 ⟨n.fTerm, n.fVote, n.fVoters, n.fSnap, ⟨n.fLog.fBase, n.fLog.fBaseTerm, []⟩⟩ (by omega) rfl rfl
theorem first_byte (c : Int) (hc : 0 ≤ c ∧ c ≤ 255) (l : List Int) : sat_ (strOfNums ([c] ++ l)) 0 = some c := by
  rw [str_append]; exact (head_str c hc _).2
theorem recT_first (h : GHard) : sat_ (recT h) 0 = some 84 := by
  unfold recT; rw [List.append_assoc]; exact first_byte 84 (by decide) _
theorem recE_first (l : GLog) (k : Nat) : sat_ (recE l k) 0 = some 69 := by
  unfold recE; rw [List.append_assoc, List.append_assoc]; exact first_byte 69 (by decide) _
theorem whole_first (h : GHard) : sat_ (wholeB h) 0 = some 87 := by
  unfold wholeB; rw [List.append_assoc, List.append_assoc, List.append_assoc]; exact first_byte 87 (by decide) _
theorem recT_ne (h : GHard) : recT h ≠ (⟨#[]⟩ : ByteArray) := ne_empty (by unfold recT; rw [str_size]; simp)
/-- What Save tells, and what it is read as. -/
theorem save_spec (old next : GHard) (h1 : mayH old) (h2 : mayH next) : ∃ l anew, m_plog_Save old next = some (l, anew) ∧ l.length ≤ 41 ∧
    (anew = true → (∀ h, Reads h l next) ∧ ∃ x r, l = x :: r ∧ sat_ x 0 = some 87) ∧
    (anew = false → Reads old l next ∧ (l = [] ∨ ∃ x r c, l = x :: r ∧ sat_ x 0 = some c ∧ c ≠ 87 ∧ x ≠ (⟨#[]⟩ : ByteArray))) := by
  have hl := h2.len
  rcases save_cases old next h1.ok h2.ok with hs | ⟨k, k1, k2, k3, k4, ⟨b1, b2, b3, b4⟩, hs⟩
  · refine ⟨_, _, hs, by simp only [wholeR, List.length_cons, recsE_len]; omega, fun _ => ⟨fun h => whole_read h next h2, _, _, rfl, whole_first _⟩, fun h => by cases h⟩
  · have hlen := h1.len
    have hE : ∀ l, l = recsE next.fLog k → (l = [] ∨ ∃ x r c, l = x :: r ∧ sat_ x 0 = some c ∧ c ≠ 87 ∧ x ≠ (⟨#[]⟩ : ByteArray)) := by
      rintro l rfl
      by_cases c : k = next.fLog.fEntries.length
      · exact .inl (List.eq_nil_of_length_eq_zero (by rw [recsE_len]; omega))
      · exact .inr ⟨_, _, 69, recsE_cons _ _ (by omega), recE_first _ _, by decide, recE_ne _ _⟩
    rcases hs with hs | ⟨t1, t2, hs⟩
    · refine ⟨_, _, hs, by simp only [List.length_append, List.length_cons, List.length_nil, recsE_len]; omega, (fun h => by cases h), fun _ => ⟨?_, .inr ⟨_, _, 84, rfl, recT_first _, by decide, recT_ne _⟩⟩⟩
      refine .cons (h' := ⟨next.fTerm, next.fVote, old.fVoters, old.fSnap, old.fLog⟩) (recT_ne _) (read_T old next.fTerm next.fVote ⟨h2.term.1, by have := h2.term.2; omega⟩ ⟨h2.vote.1, by have := h2.vote.2; omega⟩) ?_
      have := recs_read' ⟨next.fTerm, next.fVote, old.fVoters, old.fSnap, old.fLog⟩ next h2 b1 k k1 (by show old.fLog.fEntries.length ≤ 1000; omega) k2 k3 k4
      have e : withE ⟨next.fTerm, next.fVote, old.fVoters, old.fSnap, old.fLog⟩ next.fLog.fEntries = next := by
        unfold withE; simp only [b1, b2, b3, b4]
      rw [e] at this
      exact this
    · refine ⟨_, _, hs, by simp only [recsE_len]; omega, (fun h => by cases h), fun _ => ⟨?_, hE _ rfl⟩⟩
      have := recs_read' old next h2 b1 k k1 (by omega) k2 k3 k4
      have e : withE old next.fLog.fEntries = next := by
        unfold withE; simp only [b1, b2, b3, b4, t1, t2]
      rw [e] at this
      exact this
/-! ### Load -/
theorem load_loop (L : List ByteArray) (hL : L.length ≤ 1000000) (h0 : L = [] ∨ ∃ x r, L = x :: r ∧ sat_ x 0 = some 87) (r : GHard) : ∀ (d k : Nat) (h : GHard), k + d = L.length → Reads h (L.drop k) r → loop (stepA L) (stOf k h) = some (.inl (stOf 0 r).2)
  | 0, k, h, hk, hr => by
    have h1 : stepA L (stOf k h) = some (.inr (.inl (stOf k h).2)) := by
      unfold stepA stOf m_plog_Load_s2; rw [if_neg (by simp only; omega)]
    rw [List.drop_of_length_le (by omega)] at hr
    obtain rfl := hr.of_nil
    exact loop_inr h1
  | d + 1, k, h, hk, hr => by
    have hlt : k < L.length := by omega
    rw [List.drop_eq_getElem_cons hlt] at hr
    cases hr with
    | @cons _ h' _ _ _ hx hread hrest =>
      have hstep : stepA L (stOf k h) = some (.inl (stOf ((k + 1 : Nat) : Int) h')) := by
        unfold stepA stOf
        simp only
        unfold m_plog_Load_s2
        rw [if_pos (by omega), at_nat hlt]
        simp only [Option.bind_some]
        rw [if_neg hx]
        have hA : m_plog_Load_j3 h.fTerm h.fVote h.fVoters h.fSnap h.fLog.fBase h.fLog.fBaseTerm h.fLog.fEntries L[k] k = some (.inl (stOf ((k + 1 : Nat) : Int) h')) := by
          unfold m_plog_Load_j3
          rw [show m_plog_read (⟨h.fTerm, h.fVote, h.fVoters, h.fSnap, (⟨h.fLog.fBase, h.fLog.fBaseTerm, h.fLog.fEntries⟩ : GLog)⟩ : GHard) L[k] = some (h', true) from hread]
          simp only [Option.bind_some, if_true]
          rw [w64_id (x := (k : Int) + 1) (by omega) (by omega)]
          rfl
        rw [hA]
        by_cases c : (k : Int) = 0
        · rw [if_pos c]
          have hk0 : k = 0 := by omega
          subst hk0
          rcases h0 with rfl | ⟨x, r', rfl, hx87⟩
          · simp at hlt
          · rw [show (x :: r')[0] = x from rfl, hx87]
            simp only [Option.bind_some]
            rw [if_neg (by decide)]
            rfl
        · rw [if_neg c]; rfl
      rw [loop_inl hstep]
      exact load_loop L hL h0 r d (k + 1) h' (by omega) hrest
theorem entG_check {l : GLog} (hb : 0 ≤ l.fBase ∧ l.fBase ≤ 1099511627776) (ht : 0 ≤ l.fBaseTerm ∧ l.fBaseTerm ≤ 1099511627776) (hl : l.fEntries.length ≤ 40) (he : ∀ k, k < l.fEntries.length → entG (before l.fBaseTerm l.fEntries k) (l.fEntries.getD k zeroE)) : checkP l = 0 ∧ modest l.fEntries := by
  refine ⟨if_pos ⟨hb, ht, by omega, he⟩, ?_⟩
  intro e hmem
  obtain ⟨k, hk, rfl⟩ := List.getElem_of_mem hmem
  have := (he k hk).2.2.2.2.1
  rw [List.getD_eq_getElem?_getD, List.getElem?_eq_getElem hk] at this
  simp only [Option.getD_some] at this
  omega
theorem load_back (L : List ByteArray) (hL : L.length ≤ 1000000) (h0 : L = [] ∨ ∃ x r, L = x :: r ∧ sat_ x 0 = some 87) (r : GHard) (hr : Reads zeroH L r) (hm : mayH r) : m_plog_Load L = some (r, 0) := by
  have h1 := load_loop L hL h0 r L.length 0 zeroH (by omega) hr
  have h2 : loop (fun s : LSt => m_plog_Load_s2 L s.1 s.2.1 s.2.2.1 s.2.2.2.1 s.2.2.2.2.1 s.2.2.2.2.2.1 s.2.2.2.2.2.2.1 s.2.2.2.2.2.2.2) (0, 0, 0, ([] : List Int), (⟨#[]⟩ : ByteArray), 0, 0, ([] : List GEntry)) = some (.inl (stOf 0 r).2) := h1
  unfold m_plog_Load
  rw [h2]
  obtain ⟨c1, c2⟩ := entG_check hm.base hm.bterm hm.len hm.ents
  simp only [Option.bind_some, Sum.elim_inl, m_plog_Load_j1, stOf]
  rw [show (⟨r.fLog.fBase, r.fLog.fBaseTerm, r.fLog.fEntries⟩ : GLog) = r.fLog from rfl, m_Check _ c2, c1]
  simp only [Option.bind_some]
  rw [if_neg (by decide), m_within, m_within]
  simp only [Option.bind_some]
  rw [if_pos (decide_eq_true hm.term), if_pos (decide_eq_true hm.vote)]
/-! ### The law -/
theorem zero_may : mayH zeroH := ⟨⟨⟨⟨by decide, by decide, by decide⟩, by decide, fun k hk => absurd hk (Nat.not_lt_zero k)⟩, by decide, by decide⟩, by decide, by decide, .inr rfl, by decide, by decide, by decide, by decide, fun k hk => absurd hk (Nat.not_lt_zero k)⟩
theorem m_may (h : GHard) (hl : h.fLog.fEntries.length ≤ 40) (hd : ∀ e ∈ h.fLog.fEntries, e.fData.size ≤ 60) (hv : h.fVoters.length ≤ 70) (hs : h.fSnap.size ≤ 200) : ∃ b, m_law11_may h = some b ∧ (b = true → mayH h) := by
  unfold m_law11_may
  rw [m_Right _ (by omega), m_rCheck _ (fun e he => Nat.le_trans (hd e he) (by decide))]
  simp only [Option.bind_some]
  by_cases c1 : checkP h.fLog = 0
  rotate_left
  · rw [if_neg c1]; exact ⟨_, rfl, fun h => by cases h⟩
  rw [if_pos c1]
  have hc : (0 ≤ h.fLog.fBase ∧ h.fLog.fBase ≤ 1099511627776) ∧ (0 ≤ h.fLog.fBaseTerm ∧ h.fLog.fBaseTerm ≤ 1099511627776) ∧ h.fLog.fEntries.length ≤ 100000 ∧ ∀ k, k < h.fLog.fEntries.length → entG (before h.fLog.fBaseTerm h.fLog.fEntries k) (h.fLog.fEntries.getD k zeroE) := by
    unfold checkP at c1
    by_cases c : (0 ≤ h.fLog.fBase ∧ h.fLog.fBase ≤ 1099511627776) ∧ (0 ≤ h.fLog.fBaseTerm ∧ h.fLog.fBaseTerm ≤ 1099511627776) ∧ h.fLog.fEntries.length ≤ 100000 ∧ ∀ k, k < h.fLog.fEntries.length → entG (before h.fLog.fBaseTerm h.fLog.fEntries k) (h.fLog.fEntries.getD k zeroE)
    · exact c
    · rw [if_neg c] at c1; cases c1
  obtain ⟨hb, hbt, _, hE⟩ := hc
  have mk : (risingP h.fVoters = true ∨ h.fVoters = []) → (0 ≤ h.fTerm ∧ h.fTerm ≤ 1099511627776) → (0 ≤ h.fVote ∧ h.fVote ≤ 1099511627776) → mayH h := fun m1 m2 m3 => by
    refine ⟨⟨⟨⟨by omega, by omega, by omega⟩, by omega, fun k hk => ?_⟩, by omega, by omega⟩, m2, m3, m1, hs, hb, hbt, hl, hE⟩
    rw [List.getD_eq_getElem?_getD, List.getElem?_eq_getElem hk]
    exact Nat.le_trans (hd _ (List.getElem_mem hk)) (by decide)
  have fin : ∀ hR : (risingP h.fVoters = true ∨ h.fVoters = []), ∃ b, (if 0 ≤ h.fTerm then if h.fTerm ≤ 1099511627776 then if 0 ≤ h.fVote then some (decide (h.fVote ≤ 1099511627776)) else some false else some false else some false) = some b ∧ (b = true → mayH h) := by
    intro hR
    by_cases d1 : 0 ≤ h.fTerm
    rotate_left
    · rw [if_neg d1]; exact ⟨_, rfl, fun h => by cases h⟩
    rw [if_pos d1]
    by_cases d2 : h.fTerm ≤ 1099511627776
    rotate_left
    · rw [if_neg d2]; exact ⟨_, rfl, fun h => by cases h⟩
    rw [if_pos d2]
    by_cases d3 : 0 ≤ h.fVote
    rotate_left
    · rw [if_neg d3]; exact ⟨_, rfl, fun h => by cases h⟩
    rw [if_pos d3]
    exact ⟨_, rfl, fun hb => mk hR ⟨d1, d2⟩ ⟨d3, of_decide_eq_true hb⟩⟩
  by_cases c2 : risingP h.fVoters = true
  · rw [if_pos c2]; exact fin (.inl c2)
  · rw [if_neg c2]
    by_cases c3 : (h.fVoters.length : Int) = 0
    · rw [if_pos c3]; exact fin (.inr (List.eq_nil_of_length_eq_zero (by omega)))
    · rw [if_neg c3]; exact ⟨_, rfl, fun h => by cases h⟩
abbrev BSt := (List ByteArray) × Int × Int × Int × (List Int) × ByteArray × Int × Int × (List GEntry)
def bOf (rs : List ByteArray) (i : Int) (h : GHard) : BSt := (rs, i, h.fTerm, h.fVote, h.fVoters, h.fSnap, h.fLog.fBase, h.fLog.fBaseTerm, h.fLog.fEntries)
noncomputable def stepP (p0 : List GHardD) (x1 : Bool) (s : BSt) : Option (BSt ⊕ (Unit ⊕ Bool)) := m_law11_PlogBack_s2 p0 x1 s.1 s.2.1 s.2.2.1 s.2.2.2.1 s.2.2.2.2.1 s.2.2.2.2.2.1 s.2.2.2.2.2.2.1 s.2.2.2.2.2.2.2.1 s.2.2.2.2.2.2.2.2
structure Inv (i : Nat) (rs : List ByteArray) (now : GHard) : Prop where
  len : rs.length ≤ 41 * i
  may : mayH now
  reads : Reads zeroH rs now
  head : rs = [] ∨ ∃ x r, rs = x :: r ∧ sat_ x 0 = some 87
theorem sat_ne {x : ByteArray} {c : Int} (h : sat_ x 0 = some c) : x ≠ (⟨#[]⟩ : ByteArray) := ne_empty (by have := sat_hi h; omega)
/-- A round's end: what is there is loaded, and is what was saved last. -/
theorem j5_ok (l : List ByteArray) (x : GHard) (i : Nat) (hi : i < 12) (hl : l.length ≤ 1000000) (h0 : l = [] ∨ ∃ x r, l = x :: r ∧ sat_ x 0 = some 87) (hr : Reads zeroH l x) (hx : mayH x) :
    m_law11_PlogBack_j5 l x (i : Int) = some (.inl (bOf l ((i + 1 : Nat) : Int) x)) := by
  unfold m_law11_PlogBack_j5
  have h5 := hx.ok.voters; have h6 := hx.len
  rw [load_back l hl h0 x hr hx]
  simp only [Option.bind_some]
  rw [m_SameH x (by omega) (by omega)]
  simp only [Option.bind_some]
  rw [if_neg (by decide), if_pos trivial, w64_id (x := (i : Int) + 1) (by omega) (by omega)]
  rfl
theorem j4_ok (l : List ByteArray) (x : GHard) (i : Nat) (hi : i < 12) (hl : l.length ≤ 1000000) (h0 : l = [] ∨ ∃ x r, l = x :: r ∧ sat_ x 0 = some 87) (hr : Reads zeroH l x) (hx : mayH x) (b : Bool) :
    m_law11_PlogBack_j4 l x (i : Int) b = some (.inl (bOf l ((i + 1 : Nat) : Int) x)) := by
  unfold m_law11_PlogBack_j4
  rw [j5_ok l x i hi hl h0 hr hx]
  rcases h0 with rfl | ⟨y, r, rfl, hy⟩
  · rw [if_neg (by simp)]
  · rw [if_pos (by simp only [List.length_cons]; omega), show at_ (y :: r) 0 = some y from rfl]
    simp only [Option.bind_some]
    rw [if_neg (sat_ne hy), hy]
    simp only [Option.bind_some]
    rw [if_neg (by decide)]
theorem back_step (p0 : List GHardD) (i : Nat) (rs : List ByteArray) (now : GHard) (hI : Inv i rs now) (hi : i < p0.length) (hi2 : i < 12) :
    (∃ rs' now', stepP p0 true (bOf rs i now) = some (.inl (bOf rs' ((i + 1 : Nat) : Int) now')) ∧ Inv (i + 1) rs' now') ∨ stepP p0 true (bOf rs i now) = some (.inr (.inr true)) := by
  unfold stepP bOf
  simp only
  unfold m_law11_PlogBack_s2
  rw [if_pos (by omega), if_pos (by omega), at_nat hi]
  simp only [Option.bind_some]
  rw [m_tame]
  simp only [Option.bind_some]
  obtain ⟨b, hb, hmay⟩ := m_may (tameP p0[i].val) (fewP_len _) (fewP_modest _) (tameV_len _) (tameS_len _)
  generalize tameP p0[i].val = next at hb hmay ⊢
  rw [hb]
  simp only [Option.bind_some]
  have hlen := hI.len
  have hw : w64 ((i : Int) + 1) = ((i + 1 : Nat) : Int) := w64_id (by omega) (by omega)
  cases b with
  | false =>
    rw [if_neg (by decide), hw]
    exact .inl ⟨rs, now, rfl, ⟨by omega, hI.may, hI.reads, hI.head⟩⟩
  | true =>
    rw [if_pos rfl]
    have hn := hmay rfl
    obtain ⟨l, anew, hS, hll, hT, hF⟩ := save_spec now next hI.may hn
    rw [show (⟨now.fTerm, now.fVote, now.fVoters, now.fSnap, (⟨now.fLog.fBase, now.fLog.fBaseTerm, now.fLog.fEntries⟩ : GLog)⟩ : GHard) = now from rfl, hS]
    simp only [Option.bind_some]
    have go : ∀ pre : List ByteArray, pre.length ≤ 41 * i → (pre ++ l = [] ∨ ∃ x r, pre ++ l = x :: r ∧ sat_ x 0 = some 87) → Reads zeroH (pre ++ l) next → (pre = [] → l = [] → now = zeroH ∧ rs = []) →
        ∃ rs' now', m_law11_PlogBack_j3 l i now.fTerm now.fVote now.fVoters now.fSnap now.fLog.fBase now.fLog.fBaseTerm now.fLog.fEntries next true pre = some (.inl (bOf rs' ((i + 1 : Nat) : Int) now')) ∧ Inv (i + 1) rs' now' := by
      intro pre hp h0 hr hz
      unfold m_law11_PlogBack_j3
      rw [app_of (by omega)]
      simp only [Option.bind_some]
      have hlen2 : (pre ++ l).length ≤ 41 * (i + 1) := by rw [List.length_append]; omega
      have hj4 := j4_ok (pre ++ l) next i hi2 (by omega) h0 hr hn true
      by_cases c : ((pre ++ l).length : Int) = 0
      · rw [if_pos c]
        by_cases c2 : (i : Int) = 0
        · rw [if_pos c2, hw]
          have hpl : (pre ++ l).length = 0 := by omega
          rw [List.length_append] at hpl
          obtain ⟨e1, e2⟩ := hz (List.eq_nil_of_length_eq_zero (by omega)) (List.eq_nil_of_length_eq_zero (by omega))
          have e3 : pre ++ l = [] := List.eq_nil_of_length_eq_zero (by omega)
          exact ⟨pre ++ l, now, rfl, ⟨hlen2, hI.may, by rw [e3, e1]; exact .nil _, .inl e3⟩⟩
        · rw [if_neg c2, hj4]
          exact ⟨_, _, rfl, ⟨hlen2, hn, hr, h0⟩⟩
      · rw [if_neg c, hj4]
        exact ⟨_, _, rfl, ⟨hlen2, hn, hr, h0⟩⟩
    cases anew with
    | true =>
      rw [if_pos rfl]
      obtain ⟨t1, t2⟩ := hT rfl
      obtain ⟨rs', now', e, hI'⟩ := go [] (Nat.zero_le _) (.inr (by obtain ⟨x, r, e, hx⟩ := t2; exact ⟨x, r, e, hx⟩)) (t1 zeroH) (fun _ hl => by obtain ⟨x, r, e, _⟩ := t2; rw [hl] at e; cases e)
      exact .inl ⟨rs', now', e, hI'⟩
    | false =>
      rw [if_neg (by decide)]
      obtain ⟨t1, t2⟩ := hF rfl
      rcases hI.head with hrs | ⟨x, r, hrs, hx⟩
      · have hnow : now = zeroH := by
          have := hI.reads; rw [hrs] at this; exact this.of_nil.symm
        rcases t2 with hl | ⟨y, r, c, hl, hy, hc, hne⟩
        · obtain ⟨rs', now', e, hI'⟩ := go rs hlen (.inl (by rw [hrs, hl]; rfl)) (hI.reads.append t1) (fun _ _ => ⟨hnow, hrs⟩)
          exact .inl ⟨rs', now', e, hI'⟩
        · right
          unfold m_law11_PlogBack_j3
          rw [hrs, app_of (by rw [List.length_nil]; omega)]
          simp only [Option.bind_some, List.nil_append]
          rw [hl, if_neg (by simp only [List.length_cons]; omega)]
          unfold m_law11_PlogBack_j4
          rw [if_pos (by simp only [List.length_cons]; omega), show at_ (y :: r) 0 = some y from rfl]
          simp only [Option.bind_some]
          rw [if_neg hne, hy]
          simp only [Option.bind_some]
          rw [if_pos hc]
      · obtain ⟨rs', now', e, hI'⟩ := go rs hlen (.inr ⟨x, r ++ l, by rw [hrs]; rfl, hx⟩) (hI.reads.append t1) (fun h _ => by rw [hrs] at h; cases h)
        exact .inl ⟨rs', now', e, hI'⟩
theorem back_loop (p0 : List GHardD) : ∀ (d i : Nat) (rs : List ByteArray) (now : GHard), i + d = 12 → Inv i rs now → loop (stepP p0 true) (bOf rs i now) = some (.inl ()) ∨ loop (stepP p0 true) (bOf rs i now) = some (.inr true)
  | 0, i, rs, now, hd, _ => by
    left
    refine loop_inr ?_
    unfold stepP bOf
    simp only
    unfold m_law11_PlogBack_s2
    by_cases c : (i : Int) < (p0.length : Int)
    · rw [if_pos c, if_neg (by omega)]
    · rw [if_neg c]
  | d + 1, i, rs, now, hd, hI => by
    by_cases c : i < p0.length
    · rcases back_step p0 i rs now hI c (by omega) with ⟨rs', now', e, hI'⟩ | e
      · rw [loop_inl e]; exact back_loop p0 d (i + 1) rs' now' (by omega) hI'
      · exact .inr (loop_inr e)
    · left
      refine loop_inr ?_
      unfold stepP bOf
      simp only
      unfold m_law11_PlogBack_s2
      rw [if_neg (by omega)]
theorem q_PlogBack (p0 : List GHardD) (h0 : p0.length ≤ 9223372036854775807 ∧ ∀ a ∈ p0, GHard.ok a.val) : m_law11_PlogBack p0 = some true := by
  unfold m_law11_PlogBack
  rw [awake11]
  simp only [Option.bind_some]
  have hL := back_loop p0 12 0 [] zeroH rfl ⟨Nat.zero_le _, zero_may, .nil _, .inl rfl⟩
  have hL' : ∀ o, loop (stepP p0 true) (bOf [] (0 : Nat) zeroH) = some o → loop (fun s : BSt => m_law11_PlogBack_s2 p0 true s.1 s.2.1 s.2.2.1 s.2.2.2.1 s.2.2.2.2.1 s.2.2.2.2.2.1 s.2.2.2.2.2.2.1 s.2.2.2.2.2.2.2.1 s.2.2.2.2.2.2.2.2) (([] : List ByteArray), 0, 0, 0, ([] : List Int), (⟨#[]⟩ : ByteArray), 0, 0, ([] : List GEntry)) = some o := fun o h => h
  rcases hL with e | e
  · rw [hL' _ e]; rfl
  · rw [hL' _ e]; rfl

end Go.Proofs.Ytildknbbpkbkeab
