/- Plain facts of layer 11: lists of voters, logs (own work). -/
import Derived.Test.YtildknbbpkbkeaaK1
import Derived.Test.YtildknbbpkbkeaaQL
set_option linter.unusedVariables false
set_option linter.unusedSimpArgs false
namespace Go.Proofs.Ytildknbbpkbkeaa
open Go.RowKit

/-- May a number stand at k in a list of voters? -/
def good (l : List Int) (k : Nat) : Prop := 0 ≤ l.getD k 0 ∧ l.getD k 0 < 64 ∧ (0 < k → l.getD (k - 1) 0 < l.getD k 0)
instance (l : List Int) (k : Nat) : Decidable (good l k) := by unfold good; infer_instance
def risingP (l : List Int) : Bool := decide (0 < l.length ∧ ∀ k, k < l.length → good l k)
theorem at_getD {l : List Int} {k : Nat} (h : k < l.length) : at_ l (k : Int) = some (l.getD k 0) := by
  rw [at_nat h, List.getD_eq_getElem?_getD, List.getElem?_eq_getElem h]; rfl
theorem rising_step (l : List Int) (k : Nat) (hl : l.length ≤ 9223372036854775807) : m_plog_rising_s2 l (k : Int) = if k < l.length then (if good l k then some (.inl ((k + 1 : Nat) : Int)) else some (.inr (.inr false))) else some (.inr (.inl ())) := by
  unfold m_plog_rising_s2
  by_cases hk : k < l.length
  · rw [if_pos (by omega), if_pos hk, at_getD hk]
    simp only [Option.bind_some]
    rw [w64_id (x := (k : Int) + 1) (by omega) (by omega)]
    by_cases h1 : l.getD k 0 < 0
    · rw [if_pos h1, if_neg (fun h => by have := h.1; omega)]
    · rw [if_neg h1]
      by_cases h2 : 64 ≤ l.getD k 0
      · rw [if_pos h2, if_neg (fun h => by have := h.2.1; omega)]
      · rw [if_neg h2]
        by_cases h3 : (0 : Int) < k
        · rw [if_pos h3, w64_id (x := (k : Int) - 1) (by omega) (by omega), show (k : Int) - 1 = ((k - 1 : Nat) : Int) by omega, at_getD (by omega)]
          simp only [Option.bind_some]
          by_cases h4 : l.getD k 0 ≤ l.getD (k - 1) 0
          · rw [if_pos h4, if_neg (fun h => by have := h.2.2 (by omega); omega)]
          · rw [if_neg h4, if_pos ⟨by omega, by omega, fun _ => by omega⟩]; rfl
        · rw [if_neg h3, if_pos ⟨by omega, by omega, fun _ => by omega⟩]; rfl
  · rw [if_neg (by omega), if_neg hk]
theorem m_rising (l : List Int) (hl : l.length ≤ 9223372036854775807) : m_plog_rising l = some (risingP l) := by
  unfold m_plog_rising
  by_cases hg : ∀ k, k < l.length → good l k
  · have hL : loop (fun s => m_plog_rising_s2 l s) 0 = some (.inl ()) := loop_run l.length (fun k => (k : Int)) _ rfl (fun k hk => by rw [rising_step l k hl, if_pos hk, if_pos (hg k hk)]) (by rw [rising_step l _ hl, if_neg (by omega)])
    rw [hL]
    simp only [Option.bind_some, Sum.elim_inl, m_plog_rising_j1, risingP, Option.some.injEq, decide_eq_decide]
    constructor
    · intro h; exact ⟨by omega, hg⟩
    · intro h; omega
  · obtain ⟨n, hn, hng, hgo⟩ := first_not hg
    have hL : loop (fun s => m_plog_rising_s2 l s) 0 = some (.inr false) := loop_run n (fun k => (k : Int)) _ rfl (fun k hk => by rw [rising_step l k hl, if_pos (by omega), if_pos (hgo k hk)]) (by rw [rising_step l _ hl, if_pos hn, if_neg hng])
    rw [hL]
    simp only [Option.bind_some, Sum.elim_inr, risingP, Option.some.injEq]
    exact (decide_eq_false (fun h => hng (h.2 n hn))).symm
def listP (s : ByteArray) : List Int × Bool := if risingP (bytesI s) then (bytesI s, true) else ([], false)
theorem m_List (s : ByteArray) (hs : s.size ≤ 17592186044416) : m_plog_List s = some (listP s) := by
  unfold m_plog_List
  have hstep : ∀ k, k < s.size → m_plog_List_s2 s ((bytesI s).take k) (k : Int) = some (.inl ((bytesI s).take (k + 1), ((k + 1 : Nat) : Int))) := by
    intro k hk
    unfold m_plog_List_s2
    rw [if_pos (by omega), sat_of (by omega) (by omega)]
    simp only [Option.bind_some]
    have hb := byteAt_lt s k
    rw [w64_id (x := byteAt s k) (by omega) (by omega), app_of (by simp [bytesI_length]; omega)]
    simp only [Option.bind_some]
    rw [w64_id (x := (k : Int) + 1) (by omega) (by omega), List.take_succ_eq_append_getElem (by rw [bytesI_length]; exact hk), bytesI_get s k hk]
    rfl
  have hL : loop (fun x => m_plog_List_s2 s x.1 x.2) (([] : List Int), 0) = some (bytesI s) := loop_run s.size (fun k => ((bytesI s).take k, (k : Int))) _ rfl (fun k hk => hstep k hk) (by
    show m_plog_List_s2 s ((bytesI s).take s.size) (s.size : Int) = _
    unfold m_plog_List_s2
    rw [if_neg (by omega), List.take_of_length_le (by rw [bytesI_length]; exact Nat.le_refl _)])
  rw [hL]
  simp only [Option.bind_some, m_plog_List_j1]
  rw [m_rising _ (by rw [bytesI_length]; omega)]
  simp only [Option.bind_some, listP]
  cases risingP (bytesI s) <;> simp
theorem m_rList (s : ByteArray) (hs : s.size ≤ 17592186044416) : m_ref11_List s = some (listP s) := by
  unfold m_ref11_List
  have hat : ∀ k, k < s.size → byteAt s k = (bytesI s).getD k 0 := fun k hk => by
    rw [List.getD_eq_getElem?_getD, List.getElem?_eq_getElem (by rw [bytesI_length]; exact hk), Option.getD_some, bytesI_get s k hk]
  have hstep : ∀ k, k < s.size → m_ref11_List_s2 s ((bytesI s).take k) (k : Int) = if good (bytesI s) k then some (.inl ((bytesI s).take (k + 1), ((k + 1 : Nat) : Int))) else some (.inr (.inr ([], false))) := by
    intro k hk
    unfold m_ref11_List_s2
    simp only [m_ref11_List_j3]
    have hb := byteAt_lt s k
    have e1 := hat k hk
    have ht : (bytesI s).take (k + 1) = (bytesI s).take k ++ [byteAt s k] := by rw [List.take_succ_eq_append_getElem (by rw [bytesI_length]; exact hk), bytesI_get s k hk]
    have happ : app 8 ((bytesI s).take k) [w64 (byteAt s k)] = some ((bytesI s).take (k + 1)) := by
      rw [w64_id (x := byteAt s k) (by omega) (by omega), app_of (by simp [bytesI_length]; omega), ht]
    rw [if_pos (by omega), sat_of (by omega) (by omega)]
    simp only [Option.bind_some]
    rw [w64_id (x := (k : Int) + 1) (by omega) (by omega)]
    by_cases h2 : 63 < byteAt s k
    · rw [if_pos h2, if_neg (fun h => by have := h.2.1; omega)]
    · rw [if_neg h2]
      by_cases h3 : (0 : Int) < k
      · rw [if_pos h3, w64_id (x := (k : Int) - 1) (by omega) (by omega), show (k : Int) - 1 = ((k - 1 : Nat) : Int) by omega, sat_of (i := ((k - 1 : Nat) : Int)) (by omega) (by omega)]
        simp only [Option.bind_some]
        have e2 := hat (k - 1) (by omega)
        by_cases h4 : byteAt s k ≤ byteAt s ((k - 1 : Nat) : Int)
        · rw [if_pos h4, if_neg (fun h => by have := h.2.2 (by omega); omega)]
        · rw [if_neg h4, happ, if_pos ⟨by omega, by omega, fun _ => by omega⟩]; rfl
      · rw [if_neg h3, happ, if_pos ⟨by omega, by omega, fun _ => by omega⟩]; rfl
  have hend : m_ref11_List_s2 s ((bytesI s).take s.size) (s.size : Int) = some (.inr (.inl (bytesI s))) := by
    unfold m_ref11_List_s2
    rw [if_neg (by omega), List.take_of_length_le (by rw [bytesI_length]; exact Nat.le_refl _)]
  by_cases hg : ∀ k, k < s.size → good (bytesI s) k
  · have hL : loop (fun x => m_ref11_List_s2 s x.1 x.2) (([] : List Int), 0) = some (.inl (bytesI s)) := loop_run s.size (fun k => ((bytesI s).take k, (k : Int))) _ rfl (fun k hk => by show m_ref11_List_s2 s _ _ = _; rw [hstep k hk, if_pos (hg k hk)]) hend
    rw [hL]
    simp only [Option.bind_some, Sum.elim_inl, m_ref11_List_j1, listP]
    by_cases h0 : 0 < s.size
    · rw [if_pos (show risingP (bytesI s) = true from decide_eq_true ⟨by rw [bytesI_length]; exact h0, fun k hk => hg k (by rw [bytesI_length] at hk; exact hk)⟩), decide_eq_true (by omega)]
    · rw [if_neg (by simp only [risingP, decide_eq_true_eq, bytesI_length]; omega), decide_eq_false (by omega)]
      rw [show bytesI s = [] from List.eq_nil_of_length_eq_zero (by rw [bytesI_length]; omega)]
  · obtain ⟨n, hn, hng, hgo⟩ := first_not hg
    have hL : loop (fun x => m_ref11_List_s2 s x.1 x.2) (([] : List Int), 0) = some (.inr ([], false)) := loop_run n (fun k => ((bytesI s).take k, (k : Int))) _ rfl (fun k hk => by show m_ref11_List_s2 s _ _ = _; rw [hstep k (by omega), if_pos (hgo k hk)]) (by show m_ref11_List_s2 s _ _ = _; rw [hstep n hn, if_neg hng])
    rw [hL]
    simp only [Option.bind_some, Sum.elim_inr, listP]
    rw [if_neg (by simp only [risingP, decide_eq_true_eq]; intro h; exact hng (h.2 n (by rw [bytesI_length]; exact hn)))]

/-! ### Logs -/
theorem m_within (n : Int) : m_plog_within n = some (decide (0 ≤ n ∧ n ≤ 1099511627776)) := by
  unfold m_plog_within
  by_cases h : 0 ≤ n
  · rw [if_pos h]; simp [h]
  · rw [if_neg h]; simp [h]
/-- May an entry stand behind one of term t? -/
def entG (t : Int) (e : GEntry) : Prop := t ≤ e.fTerm ∧ (0 ≤ e.fTerm ∧ e.fTerm ≤ 1099511627776) ∧ 0 ≤ e.fKind ∧ e.fKind ≤ 2 ∧ e.fData.size ≤ 8000 ∧ (e.fKind = 1 → risingP (bytesI e.fData) = true)
instance (t : Int) (e : GEntry) : Decidable (entG t e) := by unfold entG; infer_instance
def zeroE : GEntry := ⟨0, 0, ⟨#[]⟩⟩
/-- The term ahead of the k-th entry. -/
def before (t : Int) (l : List GEntry) (k : Nat) : Int := if k = 0 then t else (l.getD (k - 1) zeroE).fTerm
theorem before_succ (t : Int) (l : List GEntry) (k : Nat) : before t l (k + 1) = (l.getD k zeroE).fTerm := by simp [before]
theorem at_getE {l : List GEntry} {k : Nat} (h : k < l.length) : at_ l (k : Int) = some (l.getD k zeroE) := by
  rw [at_nat h, List.getD_eq_getElem?_getD, List.getElem?_eq_getElem h]; rfl
def checkP (l : GLog) : Int := if (0 ≤ l.fBase ∧ l.fBase ≤ 1099511627776) ∧ (0 ≤ l.fBaseTerm ∧ l.fBaseTerm ≤ 1099511627776) ∧ l.fEntries.length ≤ 100000 ∧ ∀ k, k < l.fEntries.length → entG (before l.fBaseTerm l.fEntries k) (l.fEntries.getD k zeroE) then 0 else 1
/-- Texts that may be read whole. -/
def modest (l : List GEntry) : Prop := ∀ e ∈ l, e.fData.size ≤ 17592186044416
theorem modest_at {l : List GEntry} (h : modest l) (k : Nat) (hk : k < l.length) : (l.getD k zeroE).fData.size ≤ 17592186044416 := by
  rw [List.getD_eq_getElem?_getD, List.getElem?_eq_getElem hk]; exact h _ (List.getElem_mem hk)
theorem listP_snd (s : ByteArray) : (listP s).2 = risingP (bytesI s) := by unfold listP; split <;> simp_all
theorem check_step (l : GLog) (k : Nat) (hm : modest l.fEntries) (hl : l.fEntries.length ≤ 100000) : m_plog_Check_s2 l (before l.fBaseTerm l.fEntries k) (k : Int) = if k < l.fEntries.length then (if entG (before l.fBaseTerm l.fEntries k) (l.fEntries.getD k zeroE) then some (.inl (before l.fBaseTerm l.fEntries (k + 1), ((k + 1 : Nat) : Int))) else some (.inr (.inr 1))) else some (.inr (.inl ())) := by
  unfold m_plog_Check_s2
  by_cases hk : k < l.fEntries.length
  · rw [if_pos (by omega), if_pos hk, at_getE hk]
    have hmk := modest_at hm k hk
    rw [before_succ]
    generalize l.fEntries.getD k zeroE = e at *
    simp only [Option.bind_some, m_within, m_List _ hmk]
    rw [w64_id (x := (k : Int) + 1) (by omega) (by omega)]
    have hs := listP_snd e.fData
    generalize listP e.fData = z at *
    generalize before l.fBaseTerm l.fEntries k = t at *
    have hd : (0 : Int) ≤ (e.fData.size : Int) := Int.natCast_nonneg _
    by_cases c1 : e.fTerm < t
    · rw [if_pos c1, if_neg (fun h : entG t e => by have := h.1; omega)]
    · rw [if_neg c1]
      by_cases c2 : 0 ≤ e.fTerm ∧ e.fTerm ≤ 1099511627776
      · rw [if_pos (by simpa using c2)]
        by_cases c3 : e.fKind < 0
        · rw [if_pos c3, if_neg (fun h : entG t e => by have := h.2.2.1; omega)]
        · rw [if_neg c3]
          by_cases c4 : 2 < e.fKind
          · rw [if_pos c4, if_neg (fun h : entG t e => by have := h.2.2.2.1; omega)]
          · rw [if_neg c4]
            by_cases c5 : 8000 < (e.fData.size : Int)
            · rw [if_pos c5, if_neg (fun h : entG t e => by have := h.2.2.2.2.1; omega)]
            · rw [if_neg c5]
              by_cases c6 : e.fKind = 1
              · rw [if_pos c6]
                by_cases c7 : z.2 = true
                · rw [if_pos c7, if_pos (show entG t e from ⟨by omega, c2, by omega, by omega, by omega, fun _ => by rw [← hs, c7]⟩)]; rfl
                · rw [if_neg c7, if_neg (fun h : entG t e => c7 (by rw [hs]; exact h.2.2.2.2.2 c6))]
              · rw [if_neg c6, if_pos (show entG t e from ⟨by omega, c2, by omega, by omega, by omega, fun h => absurd h c6⟩)]; rfl
      · rw [if_neg (by simpa using c2), if_neg (fun h : entG t e => c2 h.2.1)]
  · rw [if_neg (by omega), if_neg hk]

theorem rcheck_step (l : GLog) (k : Nat) (hm : modest l.fEntries) (hl : l.fEntries.length ≤ 100000) (h0 : 0 ≤ before l.fBaseTerm l.fEntries k) : m_ref11_Check_s2 l (before l.fBaseTerm l.fEntries k) (k : Int) = if k < l.fEntries.length then (if entG (before l.fBaseTerm l.fEntries k) (l.fEntries.getD k zeroE) then some (.inl (before l.fBaseTerm l.fEntries (k + 1), ((k + 1 : Nat) : Int))) else some (.inr (.inr 1))) else some (.inr (.inl ())) := by
  unfold m_ref11_Check_s2
  by_cases hk : k < l.fEntries.length
  · rw [if_pos (by omega), if_pos hk, at_getE hk]
    have hmk := modest_at hm k hk
    rw [before_succ]
    generalize l.fEntries.getD k zeroE = e at *
    simp only [Option.bind_some, m_rList _ hmk]
    rw [w64_id (x := (k : Int) + 1) (by omega) (by omega)]
    have hs := listP_snd e.fData
    generalize listP e.fData = z at *
    generalize before l.fBaseTerm l.fEntries k = t at *
    have hd : (0 : Int) ≤ (e.fData.size : Int) := Int.natCast_nonneg _
    by_cases c1 : e.fTerm < t
    · rw [if_pos c1, if_neg (fun h : entG t e => by have := h.1; omega)]
    · rw [if_neg c1]
      by_cases c2 : 1099511627776 < e.fTerm
      · rw [if_pos c2, if_neg (fun h : entG t e => by have := h.2.1; omega)]
      · rw [if_neg c2]
        by_cases c3 : e.fKind < 0
        · rw [if_pos c3, if_neg (fun h : entG t e => by have := h.2.2.1; omega)]
        · rw [if_neg c3]
          by_cases c4 : 2 < e.fKind
          · rw [if_pos c4, if_neg (fun h : entG t e => by have := h.2.2.2.1; omega)]
          · rw [if_neg c4]
            by_cases c5 : 8000 < (e.fData.size : Int)
            · rw [if_pos c5, if_neg (fun h : entG t e => by have := h.2.2.2.2.1; omega)]
            · rw [if_neg c5]
              by_cases c6 : e.fKind = 1
              · rw [if_pos c6]
                by_cases c7 : z.2 = true
                · rw [if_pos c7, if_pos (show entG t e from ⟨by omega, by omega, by omega, by omega, by omega, fun _ => by rw [← hs, c7]⟩)]; rfl
                · rw [if_neg c7, if_neg (fun h : entG t e => c7 (by rw [hs]; exact h.2.2.2.2.2 c6))]
              · rw [if_neg c6, if_pos (show entG t e from ⟨by omega, by omega, by omega, by omega, by omega, fun h => absurd h c6⟩)]; rfl
  · rw [if_neg (by omega), if_neg hk]
theorem before_pos {t : Int} {l : List GEntry} {k : Nat} (h0 : 0 ≤ t) (hg : ∀ j, j < k → entG (before t l j) (l.getD j zeroE)) : 0 ≤ before t l k := by
  cases k with
  | zero => simpa [before] using h0
  | succ k => rw [before_succ]; exact (hg k (by omega)).2.1.1
theorem m_Check (l : GLog) (hm : modest l.fEntries) : m_plog_Check l = some (checkP l) := by
  unfold m_plog_Check checkP
  simp only [m_within, Option.bind_some]
  by_cases c1 : 0 ≤ l.fBase ∧ l.fBase ≤ 1099511627776
  · rw [if_pos (by simpa using c1)]
    by_cases c2 : 0 ≤ l.fBaseTerm ∧ l.fBaseTerm ≤ 1099511627776
    · rw [if_pos (by simpa using c2)]
      by_cases c3 : 100000 < (l.fEntries.length : Int)
      · rw [if_pos c3, if_neg (fun h => by have := h.2.2.1; omega)]
      · rw [if_neg c3]
        have hl : l.fEntries.length ≤ 100000 := by omega
        by_cases hg : ∀ k, k < l.fEntries.length → entG (before l.fBaseTerm l.fEntries k) (l.fEntries.getD k zeroE)
        · have hL : loop (fun s => m_plog_Check_s2 l s.1 s.2) (l.fBaseTerm, 0) = some (.inl ()) := loop_run l.fEntries.length (fun k => (before l.fBaseTerm l.fEntries k, (k : Int))) _ rfl (fun k hk => by show m_plog_Check_s2 l _ _ = _; rw [check_step l k hm hl, if_pos hk, if_pos (hg k hk)]) (by show m_plog_Check_s2 l _ _ = _; rw [check_step l _ hm hl, if_neg (by omega)])
          rw [hL, if_pos ⟨c1, c2, hl, hg⟩]
          rfl
        · obtain ⟨n, hn, hng, hgo⟩ := first_not hg
          have hL : loop (fun s => m_plog_Check_s2 l s.1 s.2) (l.fBaseTerm, 0) = some (.inr 1) := loop_run n (fun k => (before l.fBaseTerm l.fEntries k, (k : Int))) _ rfl (fun k hk => by show m_plog_Check_s2 l _ _ = _; rw [check_step l k hm hl, if_pos (by omega), if_pos (hgo k hk)]) (by show m_plog_Check_s2 l _ _ = _; rw [check_step l _ hm hl, if_pos hn, if_neg hng])
          rw [hL, if_neg (fun h => hng (h.2.2.2 n hn))]
          rfl
    · rw [if_neg (by simpa using c2), if_neg (fun h => c2 h.2.1)]
  · rw [if_neg (by simpa using c1), if_neg (fun h => c1 h.1)]
theorem m_rCheck (l : GLog) (hm : modest l.fEntries) : m_ref11_Check l = some (checkP l) := by
  unfold m_ref11_Check checkP
  by_cases a1 : l.fBase < 0
  · rw [if_pos a1, if_neg (fun h => by have := h.1; omega)]
  rw [if_neg a1]
  by_cases a2 : 1099511627776 < l.fBase
  · rw [if_pos a2, if_neg (fun h => by have := h.1; omega)]
  rw [if_neg a2]
  by_cases a3 : l.fBaseTerm < 0
  · rw [if_pos a3, if_neg (fun h => by have := h.2.1; omega)]
  rw [if_neg a3]
  by_cases a4 : 1099511627776 < l.fBaseTerm
  · rw [if_pos a4, if_neg (fun h => by have := h.2.1; omega)]
  rw [if_neg a4]
  by_cases c3 : 100000 < (l.fEntries.length : Int)
  · rw [if_pos c3, if_neg (fun h => by have := h.2.2.1; omega)]
  rw [if_neg c3]
  have hl : l.fEntries.length ≤ 100000 := by omega
  by_cases hg : ∀ k, k < l.fEntries.length → entG (before l.fBaseTerm l.fEntries k) (l.fEntries.getD k zeroE)
  · have hL : loop (fun s => m_ref11_Check_s2 l s.1 s.2) (l.fBaseTerm, 0) = some (.inl ()) := loop_run l.fEntries.length (fun k => (before l.fBaseTerm l.fEntries k, (k : Int))) _ rfl (fun k hk => by show m_ref11_Check_s2 l _ _ = _; rw [rcheck_step l k hm hl (before_pos (by omega) fun j hj => hg j (by omega)), if_pos hk, if_pos (hg k hk)]) (by show m_ref11_Check_s2 l _ _ = _; rw [rcheck_step l _ hm hl (before_pos (by omega) fun j hj => hg j (by omega)), if_neg (by omega)])
    rw [hL, if_pos ⟨by omega, by omega, hl, hg⟩]
    rfl
  · obtain ⟨n, hn, hng, hgo⟩ := first_not hg
    have hL : loop (fun s => m_ref11_Check_s2 l s.1 s.2) (l.fBaseTerm, 0) = some (.inr 1) := loop_run n (fun k => (before l.fBaseTerm l.fEntries k, (k : Int))) _ rfl (fun k hk => by show m_ref11_Check_s2 l _ _ = _; rw [rcheck_step l k hm hl (before_pos (by omega) fun j hj => hgo j (by omega)), if_pos (by omega), if_pos (hgo k hk)]) (by show m_ref11_Check_s2 l _ _ = _; rw [rcheck_step l _ hm hl (before_pos (by omega) fun j hj => hgo j (by omega)), if_pos hn, if_neg hng])
    rw [hL, if_neg (fun h => hng (h.2.2.2 n hn))]
    rfl
/-! ### What is asked of a log -/
structure okB (l : GLog) : Prop where
  lo : -1125899906842624 ≤ l.fBase
  hi : l.fBase ≤ 1125899906842625
  len : l.fEntries.length ≤ 140737488355328
def getP (l : GLog) (i : Int) : GEntry × Bool := if l.fBase < i ∧ i ≤ l.fBase + l.fEntries.length then (l.fEntries.getD (i - l.fBase - 1).toNat zeroE, true) else (zeroE, false)
def termP (l : GLog) (i : Int) : Int × Bool := if i = l.fBase then (l.fBaseTerm, true) else ((getP l i).1.fTerm, (getP l i).2)
theorem m_Last (l : GLog) (h : okB l) : m_plog_Last l = some (l.fBase + l.fEntries.length) := by
  have := h.lo; have := h.hi; have := h.len
  unfold m_plog_Last; rw [w64_id (by omega) (by omega)]
theorem m_rLast (l : GLog) (h : okB l) : m_ref11_Last l = some (l.fBase + l.fEntries.length) := m_Last l h
theorem m_Get (l : GLog) (i : Int) (h : okB l) : m_plog_Get l i = some (getP l i) := by
  have h1 := h.lo; have h2 := h.hi; have h3 := h.len
  unfold m_plog_Get getP
  by_cases c1 : i ≤ l.fBase
  · rw [if_pos c1, if_neg (by omega)]; rfl
  · rw [if_neg c1, m_Last l h]
    simp only [Option.bind_some]
    by_cases c2 : l.fBase + l.fEntries.length < i
    · rw [if_pos c2, if_neg (by omega)]; rfl
    · rw [if_neg c2, if_pos (by omega), w64_id (x := i - l.fBase) (by omega) (by omega), w64_id (x := i - l.fBase - 1) (by omega) (by omega)]
      obtain ⟨k, hk⟩ : ∃ k : Nat, i - l.fBase - 1 = k := ⟨(i - l.fBase - 1).toNat, by omega⟩
      rw [hk, at_getE (by omega), Int.toNat_natCast]
      rfl
theorem m_rGet (l : GLog) (i : Int) (h : okB l) : m_ref11_Get l i = some (getP l i) := m_Get l i h
theorem m_Term (l : GLog) (i : Int) (h : okB l) : m_plog_Term l i = some (termP l i) := by
  unfold m_plog_Term termP
  by_cases c : i = l.fBase
  · rw [if_pos c, if_pos c]
  · rw [if_neg c, if_neg c, m_Get l i h]; rfl
theorem m_rTerm (l : GLog) (i : Int) (h : okB l) : m_ref11_Term l i = some (termP l i) := m_Term l i h
theorem m_SameLog (a : GLog) (hl : a.fEntries.length ≤ 140737488355328) : m_ref11_SameLog a a = some true := by
  unfold m_ref11_SameLog
  rw [if_neg (by simp), if_neg (by simp), if_neg (by simp)]
  have hL : loop (fun s => m_ref11_SameLog_s2 a a s) 0 = some (.inl ()) := loop_run a.fEntries.length (fun k => (k : Int)) _ rfl (fun k hk => by
    unfold m_ref11_SameLog_s2
    rw [if_pos (by omega), at_getE hk, w64_id (x := (k : Int) + 1) (by omega) (by omega)]
    simp) (by unfold m_ref11_SameLog_s2; rw [if_neg (by omega)])
  rw [hL]; rfl
theorem m_same (a : List GEntry) (hl : a.length ≤ 140737488355328) : m_law11_sameEntries a a = some true := by
  unfold m_law11_sameEntries; rw [m_SameLog _ hl]; rfl
theorem m_Clone (l : List GEntry) (hl : l.length ≤ 4398046511104) : m_slices_Clone_77 l = some l := by
  unfold m_slices_Clone_77; rw [app_of (by simp; omega)]; simp
/-- How many entries lie ahead of index i. -/
def ahead (l : GLog) (i : Int) : Nat := (i - l.fBase - 1).toNat
theorem m_Slice (l : GLog) (i m : Int) (h : okB l) (hl : l.fEntries.length ≤ 4398046511104) (hi : -9223372036854775808 ≤ i ∧ i ≤ 9223372036854775807) : m_plog_Slice l i m = some ((l.fEntries.drop (ahead l i)).take m.toNat) := by
  have h1 := h.lo; have h2 := h.hi; have h3 := h.len
  unfold m_plog_Slice ahead
  rw [m_Last l h, w64_id (x := l.fBase + 1) (by omega) (by omega)]
  simp only [Option.bind_some]
  by_cases c1 : l.fBase + l.fEntries.length < max i (l.fBase + 1)
  · rw [if_pos c1, List.drop_eq_nil_of_le (by omega), List.take_nil]
  · rw [if_neg c1]
    by_cases c2 : m < 1
    · rw [if_pos c2, show m.toNat = 0 from by omega, List.take_zero]
    · rw [if_neg c2, w64_id (x := max i (l.fBase + 1) - l.fBase) (by omega) (by omega), w64_id (x := max i (l.fBase + 1) - l.fBase - 1) (by omega) (by omega)]
      unfold cutLo
      rw [if_pos (by omega), show (max i (l.fBase + 1) - l.fBase - 1).toNat = (i - l.fBase - 1).toNat from by omega]
      simp only [Option.bind_some]
      unfold cutHi
      have hd : (l.fEntries.drop (i - l.fBase - 1).toNat).length ≤ 4398046511104 := by rw [List.length_drop]; omega
      generalize l.fEntries.drop (i - l.fBase - 1).toNat = q at *
      rw [if_pos (by omega)]
      simp only [Option.bind_some]
      rw [m_Clone _ (by rw [List.length_take]; omega)]
      simp only [Option.bind_some, Option.some.injEq]
      rcases Int.le_total m q.length with hq | hq
      · rw [Int.min_eq_left hq]
      · rw [Int.min_eq_right hq, Int.toNat_natCast, List.take_length, List.take_of_length_le (by omega)]
theorem m_rSlice (l : GLog) (i m : Int) (h : okB l) (hl : l.fEntries.length ≤ 4398046511104) : m_ref11_Slice l i m = some ((l.fEntries.drop (ahead l i)).take m.toNat) := by
  have h1 := h.lo; have h2 := h.hi; have h3 := h.len
  unfold m_ref11_Slice ahead
  have hL : loop (fun s => m_ref11_Slice_s2 l i m s.1 s.2) (([] : List GEntry), 0) = some ((l.fEntries.drop (i - l.fBase - 1).toNat).take m.toNat) := by
    refine loop_run l.fEntries.length (fun k => (((l.fEntries.take k).drop (i - l.fBase - 1).toNat).take m.toNat, (k : Int))) _ (by simp) (fun k hk => ?_) ?_
    · show m_ref11_Slice_s2 l i m _ _ = _
      unfold m_ref11_Slice_s2
      rw [if_pos (by omega), w64_id (x := (k : Int) + 1) (by omega) (by omega), w64_id (x := l.fBase + 1) (by omega) (by omega), w64_id (x := l.fBase + 1 + k) (by omega) (by omega)]
      generalize hq : (i - l.fBase - 1).toNat = a
      have ht : l.fEntries.take (k + 1) = l.fEntries.take k ++ [l.fEntries.getD k zeroE] := by
        rw [List.take_succ_eq_append_getElem hk, List.getD_eq_getElem?_getD, List.getElem?_eq_getElem hk]; rfl
      rw [ht]
      have hkl : (l.fEntries.take k).length = k := by rw [List.length_take]; omega
      by_cases c1 : i ≤ l.fBase + 1 + k
      · rw [if_pos c1, List.drop_append_of_le_length (by omega)]
        have hdl : ((l.fEntries.take k).drop a).length = k - a := by rw [List.length_drop, hkl]
        generalize (l.fEntries.take k).drop a = q at *
        by_cases c2 : ((q.take m.toNat).length : Int) < m
        · have c3 : q.length < m.toNat := by rw [List.length_take] at c2; omega
          rw [if_pos c2, at_getE hk]
          simp only [Option.bind_some]
          rw [List.take_of_length_le (i := m.toNat) (l := q) (by omega), List.take_of_length_le (i := m.toNat) (l := q ++ _) (by simp only [List.length_append, List.length_cons, List.length_nil]; omega), app_of (by simp only [List.length_cons, List.length_nil]; omega)]
          rfl
        · rw [if_neg c2, List.take_append_of_le_length (by rw [List.length_take] at c2; omega)]
          rfl
      · rw [if_neg c1, List.drop_eq_nil_of_le (by omega), List.drop_eq_nil_of_le (by simp only [List.length_append, List.length_cons, List.length_nil]; omega)]
        rfl
    · show m_ref11_Slice_s2 l i m _ _ = _
      unfold m_ref11_Slice_s2
      rw [if_neg (by omega), List.take_length]
  rw [hL]; rfl
end Go.Proofs.Ytildknbbpkbkeaa
