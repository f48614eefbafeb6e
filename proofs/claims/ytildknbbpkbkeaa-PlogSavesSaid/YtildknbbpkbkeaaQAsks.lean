/- The plain law of PlogAsks (own work). -/
import Derived.Test.YtildknbbpkbkeaaQ1
set_option linter.unusedVariables false
set_option linter.unusedSimpArgs false
namespace Go.Proofs.Ytildknbbpkbkeaa
/-- A log's entries as the law takes them. -/
def cutE (e : GEntry) : GEntry := if 60 < (e.fData.size : Int) then ⟨e.fTerm, e.fKind, e.fData.extract 0 60⟩ else e
def fewP (l : List GEntry) : List GEntry := (l.take 40).map cutE
theorem cutE_size (e : GEntry) : (cutE e).fData.size ≤ 60 := by
  unfold cutE
  split
  · show (e.fData.extract 0 60).size ≤ 60; rw [ByteArray.size_extract]; omega
  · omega
theorem fewP_len (l : List GEntry) : (fewP l).length ≤ 40 := by simp [fewP]; omega
theorem fewP_modest (l : List GEntry) : ∀ e ∈ fewP l, e.fData.size ≤ 60 := by
  intro e he
  obtain ⟨x, _, rfl⟩ := List.mem_map.1 he
  exact cutE_size x
theorem m_few (l : List GEntry) : m_law11_few l = some (fewP l) := by
  unfold m_law11_few
  have hL : loop (fun s => m_law11_few_s2 l s.1 s.2) (([] : List GEntry), 0) = some (fewP l) := by
    refine loop_run (min l.length 40) (fun k => ((l.take k).map cutE, (k : Int))) _ (by simp) (fun k hk => ?_) ?_
    · show m_law11_few_s2 l _ _ = _
      unfold m_law11_few_s2
      have hk1 : k < l.length := by omega
      have ht : (l.take (k + 1)).map cutE = (l.take k).map cutE ++ [cutE (l.getD k zeroE)] := by
        rw [List.take_succ_eq_append_getElem hk1, List.map_append, List.getD_eq_getElem?_getD, List.getElem?_eq_getElem hk1]; rfl
      have happ : ∀ e, app 32 ((l.take k).map cutE) [e] = some ((l.take k).map cutE ++ [e]) := fun e => app_of (by simp only [List.length_map, List.length_take, List.length_cons, List.length_nil]; omega)
      rw [if_pos (by omega), if_pos (by omega), at_getE hk1]
      simp only [Option.bind_some]
      rw [ht]
      unfold cutE
      by_cases c : 60 < ((l.getD k zeroE).fData.size : Int)
      · rw [if_pos c]
        unfold scutHi
        rw [if_pos (by omega)]
        simp only [Option.bind_some, m_law11_few_j3]
        rw [show List.map (fun e : GEntry => if 60 < (e.fData.size : Int) then (⟨e.fTerm, e.fKind, e.fData.extract 0 60⟩ : GEntry) else e) (List.take k l) = (l.take k).map cutE from rfl, happ, w64_id (by omega) (by omega), if_pos c]
        rfl
      · rw [if_neg c]
        simp only [m_law11_few_j3]
        rw [show List.map (fun e : GEntry => if 60 < (e.fData.size : Int) then (⟨e.fTerm, e.fKind, e.fData.extract 0 60⟩ : GEntry) else e) (List.take k l) = (l.take k).map cutE from rfl, happ, w64_id (by omega) (by omega), if_neg c]
        rfl
    · show m_law11_few_s2 l _ _ = _
      unfold m_law11_few_s2 fewP
      by_cases c : ((min l.length 40 : Nat) : Int) < l.length
      · rw [if_pos c, if_neg (by omega), Nat.min_eq_right (by omega)]
      · rw [if_neg c, List.take_of_length_le (i := min l.length 40) (by omega), List.take_of_length_le (i := 40) (by omega)]
  rw [hL]; rfl
def smallP (l : GLog) : GLog := ⟨l.fBase, l.fBaseTerm, fewP l.fEntries⟩
theorem m_small (l : GLog) : m_law11_small l = some (smallP l) := by
  unfold m_law11_small; rw [m_few]; rfl
theorem m_sound (l : GLog) : m_law11_sound l = some (decide (-1000 ≤ l.fBase ∧ l.fBase ≤ 1125899906842624)) := by
  unfold m_law11_sound
  by_cases c : -1000 ≤ l.fBase
  · rw [if_pos c]; simp [c]
  · rw [if_neg c]; simp [c]
end Go.Proofs.Ytildknbbpkbkeaa
