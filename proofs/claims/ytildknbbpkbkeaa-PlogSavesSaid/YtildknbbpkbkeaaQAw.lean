/- The chapter's examples, reckoned (own work). -/
import Derived.Test.YtildknbbpkbkeaaQAsks
set_option linter.unusedVariables false
set_option linter.unusedSimpArgs false
namespace Go.Proofs.Ytildknbbpkbkeaa
def exL : GLog := ⟨2, 1, [⟨1, 0, ⟨#[]⟩⟩, ⟨2, 0, ⟨#[]⟩⟩]⟩
theorem exB : okB exL := ⟨by decide, by decide, by decide⟩
theorem put1 : m_plog_Put exL 3 [⟨3, 0, ⟨#[]⟩⟩] = some (⟨2, 1, [⟨1, 0, ⟨#[]⟩⟩, ⟨3, 0, ⟨#[]⟩⟩]⟩, 4) := by
  unfold m_plog_Put
  rw [if_neg (by decide), m_Last _ exB, loop_unfold]
  have hs : m_plog_Put_s2 [⟨3, 0, ⟨#[]⟩⟩] exL 3 0 = some (.inr (.inr (⟨2, 1, [⟨1, 0, ⟨#[]⟩⟩, ⟨3, 0, ⟨#[]⟩⟩]⟩, 4))) := by
    unfold m_plog_Put_s2
    rw [m_Term _ _ exB]
    rfl
  rw [hs]
  rfl
theorem put2 : m_plog_Put exL 3 [⟨2, 0, ⟨#[]⟩⟩, ⟨2, 0, ⟨#[]⟩⟩] = some (⟨2, 1, [⟨1, 0, ⟨#[]⟩⟩, ⟨2, 0, ⟨#[]⟩⟩, ⟨2, 0, ⟨#[]⟩⟩]⟩, 5) := by
  unfold m_plog_Put
  rw [if_neg (by decide), m_Last _ exB, loop_unfold]
  have hs : m_plog_Put_s2 [⟨2, 0, ⟨#[]⟩⟩, ⟨2, 0, ⟨#[]⟩⟩] exL 3 0 = some (.inl 1) := by
    unfold m_plog_Put_s2
    rw [m_Term _ _ exB]
    rfl
  have hs2 : m_plog_Put_s2 [⟨2, 0, ⟨#[]⟩⟩, ⟨2, 0, ⟨#[]⟩⟩] exL 3 1 = some (.inr (.inr (⟨2, 1, [⟨1, 0, ⟨#[]⟩⟩, ⟨2, 0, ⟨#[]⟩⟩, ⟨2, 0, ⟨#[]⟩⟩]⟩, 5))) := by
    unfold m_plog_Put_s2
    rw [m_Term _ _ exB]
    rfl
  rw [hs]
  simp only [Option.bind_some, Sum.elim_inl]
  rw [loop_unfold, hs2]
  rfl
theorem newer_eq (l : GLog) (a b : Int) (h : okB l) : m_plog_Newer l a b = some (if (termP l (l.fBase + l.fEntries.length)).1 < b then true else if b = (termP l (l.fBase + l.fEntries.length)).1 then decide (l.fBase + l.fEntries.length ≤ a) else false) := by
  unfold m_plog_Newer
  rw [m_Last l h]
  simp only [Option.bind_some]
  rw [m_Term l _ h]
  simp only [Option.bind_some]
  repeat' split
  all_goals rfl
theorem data15 : m_plog_Data [1, 5] = some ⟨#[1, 5]⟩ := by
  unfold m_plog_Data
  have h0 : mkL 1 (([1, 5] : List Int).length : Int) (0 : Int) = some [0, 0] := rfl
  rw [h0]
  simp only [Option.bind_some]
  have h1 : m_plog_Data_s2 [1, 5] [0, 0] 0 = some (.inl ([1, 0], 1)) := rfl
  have h2 : m_plog_Data_s2 [1, 5] [1, 0] 1 = some (.inl ([1, 5], 2)) := rfl
  have h3 : m_plog_Data_s2 [1, 5] [1, 5] 2 = some (.inr [1, 5]) := rfl
  rw [loop_inl (step := fun s => m_plog_Data_s2 [1, 5] s.1 s.2) h1, loop_inl (step := fun s => m_plog_Data_s2 [1, 5] s.1 s.2) h2, loop_inr (step := fun s => m_plog_Data_s2 [1, 5] s.1 s.2) h3]
  rfl
theorem awake11 : m_law11_awake = some true := by
  unfold m_law11_awake
  rw [show m_law11_example = some exL from rfl]
  simp only [Option.bind_some]
  rw [m_Term _ _ exB, m_Term _ _ exB, m_Term _ _ exB]
  simp only [Option.bind_some]
  rw [show m_plog_Put exL 3 _ = _ from put1, show m_plog_Put exL 3 _ = _ from put2, m_Last _ exB]
  simp only [Option.bind_some]
  rw [newer_eq _ _ _ exB, newer_eq _ _ _ exB, newer_eq _ _ _ exB, data15]
  rfl
/-- The plain law. -/
theorem q_PlogAsks (p0 : GLog) (p1 : Int) (p2 : Int) (h0 : GLog.ok p0) (h1 : ((-9223372036854775808) ≤ p1 ∧ p1 ≤ 9223372036854775807)) (h2 : ((-9223372036854775808) ≤ p2 ∧ p2 ≤ 9223372036854775807)) : m_law11_PlogAsks p0 p1 p2 = some true := by
  unfold m_law11_PlogAsks
  rw [awake11, m_small]
  simp only [Option.bind_some]
  rw [m_sound]
  simp only [Option.bind_some]
  by_cases hs : -1000 ≤ (smallP p0).fBase ∧ (smallP p0).fBase ≤ 1125899906842624
  · rw [if_pos (by simpa using hs)]
    have hlen : (smallP p0).fEntries.length ≤ 40 := fewP_len _
    have hb : okB (smallP p0) := ⟨by omega, by omega, by omega⟩
    have hm : modest (smallP p0).fEntries := fun e he => Nat.le_trans (fewP_modest _ e he) (by decide)
    rw [m_Term _ _ hb, m_rTerm _ _ hb, m_Get _ _ hb, m_rGet _ _ hb, m_Slice _ _ _ hb (by omega) h1, m_rSlice _ _ _ hb (by omega)]
    simp only [Option.bind_some]
    rw [m_same _ (by simp; omega), m_Check _ hm, m_rCheck _ hm, m_Last _ hb, m_rLast _ hb]
    simp
  · rw [if_neg (by simpa using hs)]
end Go.Proofs.Ytildknbbpkbkeaa
