import Derived.Test.YtoglbdaagfoddaaKRT
set_option linter.unusedVariables false
set_option linter.unusedSimpArgs false
set_option maxRecDepth 16384
namespace Go.Proofs.Ytoglbdaagfoddaa
open Go.RowKit
theorem at_getD {l : List Int} {k : Nat} (h : k < l.length) : at_ l (k : Int) = some (l.getD k 0) := by
  rw [at_nat h, List.getD_eq_getElem?_getD, List.getElem?_eq_getElem h]; rfl
def zeroE : GEntry := ⟨0, 0, ⟨#[]⟩⟩
theorem at_getE {l : List GEntry} {k : Nat} (h : k < l.length) : at_ l (k : Int) = some (l.getD k zeroE) := by
  rw [at_nat h, List.getD_eq_getElem?_getD, List.getElem?_eq_getElem h]; rfl
structure okB (l : GLog) : Prop where
  lo : -1125899906842624 ≤ l.fBase
  hi : l.fBase ≤ 1125899906842625
  len : l.fEntries.length ≤ 140737488355328
def getP (l : GLog) (i : Int) : GEntry × Bool := if l.fBase < i ∧ i ≤ l.fBase + l.fEntries.length then (l.fEntries.getD (i - l.fBase - 1).toNat zeroE, true) else (zeroE, false)
def termP (l : GLog) (i : Int) : Int × Bool := if i = l.fBase then (l.fBaseTerm, true) else ((getP l i).1.fTerm, (getP l i).2)
theorem m_Last (l : GLog) (h : okB l) : m_plog_Last l = some (l.fBase + l.fEntries.length) := by
  have := h.lo; have := h.hi; have := h.len
  unfold m_plog_Last; rw [w64_id (by omega) (by omega)]
theorem m_Get (l : GLog) (i : Int) (h : okB l) : m_plog_Get l i = some (getP l i) := by
  have h1 := h.lo; have h2 := h.hi; have h3 := h.len
  unfold m_plog_Get getP
  by_cases c1 : i ≤ l.fBase
  · rw [if_pos c1, if_neg (by omega)]; rfl
  · rw [if_neg c1, m_Last l h]
    simp only [Option.bind_some]
    by_cases c2 : l.fBase + l.fEntries.length < i
    · rw [if_pos c2, if_neg (by omega)]; rfl
    · rw [if_neg c2, if_pos (by omega), w64_id (x := i - l.fBase) (by omega) (by omega), w64_id (x := i - l.fBase - 1) (by omega) (by omega)]
      obtain ⟨k, hk⟩ : ∃ k : Nat, i - l.fBase - 1 = k := ⟨(i - l.fBase - 1).toNat, by omega⟩
      rw [hk, at_getE (by omega), Int.toNat_natCast]
      rfl
theorem m_Term (l : GLog) (i : Int) (h : okB l) : m_plog_Term l i = some (termP l i) := by
  unfold m_plog_Term termP
  by_cases c : i = l.fBase
  · rw [if_pos c, if_pos c]
  · rw [if_neg c, if_neg c, m_Get l i h]; rfl
theorem m_SameLog (a : GLog) (hl : a.fEntries.length ≤ 140737488355328) : m_ref11_SameLog a a = some true := by
  unfold m_ref11_SameLog
  rw [if_neg (by simp), if_neg (by simp), if_neg (by simp)]
  have hL : loop (fun s => m_ref11_SameLog_s2 a a s) 0 = some (.inl ()) := loop_run a.fEntries.length (fun k => (k : Int)) _ rfl (fun k hk => by
    unfold m_ref11_SameLog_s2
    rw [if_pos (by omega), at_getE hk, w64_id (x := (k : Int) + 1) (by omega) (by omega)]
    simp) (by unfold m_ref11_SameLog_s2; rw [if_neg (by omega)])
  rw [hL]; rfl
theorem m_Clone (l : List GEntry) (hl : l.length ≤ 4398046511104) : m_slices_Clone_74 l = some l := by
  unfold m_slices_Clone_74; rw [app_of (by simp; omega)]; simp
open Go.RowKit
/-! ### Bytes -/
theorem str_size (l : List Int) : (strOfNums l).size = l.length := by simp [strOfNums, ByteArray.size]
theorem m_SameInts (a b : List Int) (hl : a.length ≤ 1000000) : m_ref11_SameInts a b = some (decide (a = b)) := by
  unfold m_ref11_SameInts
  by_cases hab : (a.length : Int) = b.length
  · rw [if_neg (by omega)]
    have hstep : ∀ k, k < a.length → m_ref11_SameInts_s2 a b (k : Int) = if a.getD k 0 = b.getD k 0 then some (.inl ((k + 1 : Nat) : Int)) else some (.inr (.inr false)) := fun k hk => by
      unfold m_ref11_SameInts_s2
      rw [if_pos (by omega), at_getD hk, at_getD (by omega), w64_id (x := (k : Int) + 1) (by omega) (by omega)]
      simp only [Option.bind_some]
      by_cases h : a.getD k 0 = b.getD k 0
      · rw [if_neg (fun hn => hn h), if_pos h]; rfl
      · rw [if_pos h, if_neg h]
    have hend : m_ref11_SameInts_s2 a b (a.length : Int) = some (.inr (.inl ())) := by
      unfold m_ref11_SameInts_s2; rw [if_neg (by omega)]
    by_cases hg : ∀ k, k < a.length → a.getD k 0 = b.getD k 0
    · have hL : loop (fun s => m_ref11_SameInts_s2 a b s) 0 = some (.inl ()) := loop_run a.length (fun k => (k : Int)) _ rfl (fun k hk => by rw [hstep k hk, if_pos (hg k hk)]) hend
      rw [hL]
      have : a = b := List.ext_getElem (by omega) fun j h1 h2 => by
        have := hg j h1
        rw [List.getD_eq_getElem?_getD, List.getD_eq_getElem?_getD, List.getElem?_eq_getElem h1, List.getElem?_eq_getElem h2] at this
        exact this
      simp [this, m_ref11_SameInts_j1]
    · obtain ⟨n, hn, hng, hgo⟩ := first_not hg
      have hL : loop (fun s => m_ref11_SameInts_s2 a b s) 0 = some (.inr false) := loop_run n (fun k => (k : Int)) _ rfl (fun k hk => by rw [hstep k (by omega), if_pos (hgo k hk)]) (by rw [hstep n hn, if_neg hng])
      rw [hL]
      have : a ≠ b := fun h => hng (by rw [h])
      simp [this]
  · rw [if_pos hab]
    have : a ≠ b := fun h => hab (by rw [h])
    simp [this]
/-! ### Numbers read -/
open Go.RowKit
theorem awake12 : m_law12_awake = some true := by decide +kernel
/-! ### What is in a list of numbers -/
theorem m_Index_has (l : List Int) (v : Int) (hl : l.length ≤ 1000000) : ∃ x, m_slices_Index_56 l v = some x ∧ (0 ≤ x ↔ v ∈ l) := by
  unfold m_slices_Index_56
  have hstep : ∀ k, k < l.length → m_slices_Index_56_s2 l v (k : Int) = if v = l.getD k 0 then some (.inr (.inr (k : Int))) else some (.inl ((k + 1 : Nat) : Int)) := fun k hk => by
    unfold m_slices_Index_56_s2
    rw [if_pos (by omega), at_getD hk, w64_id (x := (k : Int) + 1) (by omega) (by omega)]
    rfl
  have hend : m_slices_Index_56_s2 l v (l.length : Int) = some (.inr (.inl ())) := by unfold m_slices_Index_56_s2; rw [if_neg (by omega)]
  by_cases hg : ∀ k, k < l.length → ¬ v = l.getD k 0
  · have hL : loop (fun s => m_slices_Index_56_s2 l v s) 0 = some (.inl ()) := loop_run l.length (fun k => (k : Int)) _ rfl (fun k hk => by rw [hstep k hk, if_neg (hg k hk)]) hend
    rw [hL]
    refine ⟨-1, rfl, fun h => absurd h (by decide), fun h => ?_⟩
    obtain ⟨k, hk, e⟩ := List.getElem_of_mem h
    exact absurd (by rw [List.getD_eq_getElem?_getD, List.getElem?_eq_getElem hk]; exact e.symm) (hg k hk)
  · obtain ⟨n, hn, hng, hgo⟩ := first_not hg
    have hL : loop (fun s => m_slices_Index_56_s2 l v s) 0 = some (.inr (n : Int)) := loop_run n (fun k => (k : Int)) _ rfl (fun k hk => by rw [hstep k (by omega), if_neg (hgo k hk)]) (by rw [hstep n hn, if_pos (Classical.not_not.1 hng)])
    rw [hL]
    refine ⟨n, rfl, fun _ => ?_, fun _ => by omega⟩
    rw [Classical.not_not.1 hng, List.getD_eq_getElem?_getD, List.getElem?_eq_getElem hn]
    exact List.getElem_mem hn
theorem m_Contains (l : List Int) (v : Int) (hl : l.length ≤ 1000000) : m_slices_Contains_35 l v = some (decide (v ∈ l)) := by
  obtain ⟨x, h1, h2⟩ := m_Index_has l v hl
  unfold m_slices_Contains_35
  rw [h1]
  simp only [Option.bind_some, Option.some.injEq, decide_eq_decide]
  exact h2
def majP (l w : List Int) : Bool := decide (l.length < 2 * (l.countP fun v => decide (v ∈ w)))
theorem count_take (l : List Int) (p : Int → Bool) (k : Nat) (hk : k < l.length) : ((l.take (k + 1)).countP p : Int) = if p (l.getD k 0) = true then ((l.take k).countP p : Int) + 1 else (l.take k).countP p := by
  rw [List.take_succ_eq_append_getElem hk, List.countP_append, List.getD_eq_getElem?_getD, List.getElem?_eq_getElem hk]
  simp only [Option.getD_some, List.countP_cons, List.countP_nil]
  split <;> simp
theorem m_Majority (l w : List Int) (hl : l.length ≤ 1000000) (hw : w.length ≤ 1000000) : m_raft_Majority l w = some (majP l w) := by
  unfold m_raft_Majority
  have hb : ∀ k, (l.take k).countP (fun v => decide (v ∈ w)) ≤ l.length := fun k => Nat.le_trans List.countP_le_length (by simp; omega)
  have hL : loop (fun s => m_raft_Majority_s2 l w s.1 s.2) (0, 0) = some ((l.countP fun v => decide (v ∈ w) : Nat) : Int) := by
    refine loop_run l.length (fun k => ((((l.take k).countP fun v => decide (v ∈ w) : Nat) : Int), (k : Int))) _ rfl (fun k hk => ?_) ?_
    · show m_raft_Majority_s2 l w _ _ = _
      unfold m_raft_Majority_s2
      have := hb k
      rw [if_pos (by omega), at_getD hk]
      simp only [Option.bind_some]
      rw [m_Contains w _ hw, w64_id (x := (k : Int) + 1) (by omega) (by omega)]
      simp only [Option.bind_some]
      rw [count_take l _ k hk]
      rw [w64_id (x := ((l.take k).countP _ : Int) + 1) (by omega) (by omega)]
      by_cases c : l.getD k 0 ∈ w
      · rw [if_pos (by simpa using c), if_pos (by simpa using c)]; rfl
      · rw [if_neg (by simpa using c), if_neg (by simpa using c)]; rfl
    · show m_raft_Majority_s2 l w _ _ = _
      unfold m_raft_Majority_s2
      rw [if_neg (by omega), List.take_length]
  rw [hL]
  have := hb l.length
  rw [List.take_length] at this
  simp only [Option.bind_some, m_raft_Majority_j1, majP]
  rw [w64_id (by omega) (by omega)]
  simp only [Option.some.injEq, decide_eq_decide]
  omega
open Go.RowKit
theorem m_pick (x n : Int) (hx : -9223372036854775808 ≤ x ∧ x ≤ 9223372036854775807) (hn : 0 < n) : ∃ v, m_law12_pick x n = some v ∧ 0 ≤ v ∧ v < n := by
  have hj : ∀ y : Int, 0 ≤ y → ∃ v, m_law12_pick_j1 n y = some v ∧ 0 ≤ v ∧ v < n := fun y hy => by
    unfold m_law12_pick_j1 dvd
    rw [if_pos (by omega)]
    exact ⟨_, rfl, Int.tmod_nonneg _ hy, Int.tmod_lt_of_pos _ hn⟩
  unfold m_law12_pick
  by_cases h : x < 0
  · rw [if_pos h, w64_id (x := x + 1) (by omega) (by omega), w64_id (x := 0 - (x + 1)) (by omega) (by omega)]
    exact hj _ (by omega)
  · rw [if_neg h]
    exact hj _ (by omega)
/-- A node that leads alone: its number, its log. -/
def soloR (id : Int) (es : List GEntry) : GRaft := ⟨id, 2, id + 1, es.length, 3, ⟨1, id + 1, [id], ⟨#[]⟩, ⟨0, 0, es⟩⟩, [], []⟩
/-- Entries of its term, no voters among them. -/
def soloE (es : List GEntry) : Prop := (∀ e ∈ es, e.fTerm = 1 ∧ e.fKind ≠ 1) ∧ 1 ≤ es.length ∧ es.length ≤ 100
theorem solo_begin : ∀ id : Fin 64, ((m_raft_New (id.val : Int) ⟨0, 0, [(id.val : Int)], ⟨#[]⟩, ⟨0, 0, []⟩⟩ 0).bind fun x => m_raft_Tick x 3) = some (soloR id.val [⟨1, 2, ⟨#[]⟩⟩], []) := by decide +kernel
theorem okB_of {es : List GEntry} (h : es.length ≤ 1000) (b : Int) (hb : 0 ≤ b ∧ b ≤ 1000) (t : Int) : okB ⟨b, t, es⟩ := ⟨by simp only; omega, by simp only; omega, by simp only; omega⟩
theorem m_last (es : List GEntry) (h : es.length ≤ 1000) (x : Graft_state) (hx : x.fRaft.fHard.fLog = ⟨0, 0, es⟩) : ∃ t, m_raft_state_last x = some ((es.length : Int), t) := by
  unfold m_raft_state_last
  rw [hx, m_Last _ (okB_of h 0 (by omega) 0)]
  simp only [Option.bind_some, Int.zero_add]
  rw [m_Term _ _ (okB_of h 0 (by omega) 0)]
  exact ⟨_, rfl⟩
theorem m_Now_none (hh : GHard) (hl : hh.fLog.fEntries.length ≤ 1000) (hv : hh.fVoters.length ≤ 1000) (hk : ∀ e ∈ hh.fLog.fEntries, e.fKind ≠ 1) : m_plog_Now hh = some hh.fVoters := by
  unfold m_plog_Now
  have hL : loop (fun s => m_plog_Now_s2 hh s) 0 = some (.inl ()) := loop_run hh.fLog.fEntries.length (fun k => (k : Int)) _ rfl (fun k hk' => by
    unfold m_plog_Now_s2
    rw [if_pos (by omega), w64_id (x := (hh.fLog.fEntries.length : Int) - 1) (by omega) (by omega), w64_id (by omega) (by omega), show (hh.fLog.fEntries.length : Int) - 1 - k = ((hh.fLog.fEntries.length - 1 - k : Nat) : Int) by omega, at_nat (by omega), w64_id (x := (k : Int) + 1) (by omega) (by omega)]
    simp only [Option.bind_some]
    rw [if_neg (hk _ (List.getElem_mem _))]; rfl) (by unfold m_plog_Now_s2; rw [if_neg (by omega)])
  rw [hL]
  simp only [Option.bind_some, Sum.elim_inl, m_plog_Now_j1, m_slices_Clone_75]
  rw [app_of (by simp; omega)]
  rfl
theorem m_Add (l : GLog) (es : List GEntry) (h : l.fEntries.length + es.length ≤ 1000) : m_plog_Add l es = some ⟨l.fBase, l.fBaseTerm, l.fEntries ++ es⟩ := by
  unfold m_plog_Add cutHi
  rw [if_pos (by omega)]
  simp only [Option.bind_some]
  rw [Int.toNat_natCast, List.take_length, app_of (by omega)]
  rfl
theorem getE_mem {es : List GEntry} {k : Nat} (h : k < es.length) : es.getD k zeroE ∈ es := by
  rw [List.getD_eq_getElem?_getD, List.getElem?_eq_getElem h]; exact List.getElem_mem h
theorem maj_one (id : Int) : majP [id] [id] = true := by simp [majP]
theorem c1_none (o : Graft_state) (i : Int) (h : o.fRaft.fMarks = []) : m_raft_state_commit_c1 i o = some [o.fRaft.fMe] := by
  unfold m_raft_state_commit_c1
  rw [loop_inr (r := [o.fRaft.fMe]) (by show m_raft_state_commit_c1_s2 o i _ _ = _; unfold m_raft_state_commit_c1_s2; rw [h, if_neg (by simp)])]
  rfl
theorem all_none (o : Graft_state) (h : o.fRaft.fMarks = []) : m_raft_state_all o = some [] := by
  unfold m_raft_state_all
  rw [loop_inr (r := ([] : List GNote)) (by show m_raft_state_all_s2 o _ _ = _; unfold m_raft_state_all_s2; rw [h, if_neg (by decide)])]
  rfl
def soloS (id c : Int) (es : List GEntry) : Graft_state := ⟨⟨id, 2, id + 1, c, 3, ⟨1, id + 1, [id], ⟨#[]⟩, ⟨0, 0, es⟩⟩, [], []⟩⟩
theorem kind01 : (0 : Int) ≠ 1 := by decide
theorem solo_commit (id c : Int) (es : List GEntry) (he : ∀ e ∈ es, e.fTerm = 1 ∧ e.fKind ≠ 1) (hl : 1 ≤ es.length ∧ es.length ≤ 100) (hc : c < es.length) : m_raft_state_commit (soloS id c es) = some ⟨soloR id es⟩ := by
  unfold m_raft_state_commit
  obtain ⟨t, ht⟩ := m_last es (by omega) (soloS id c es) rfl
  rw [ht]
  simp only [Option.bind_some]
  have hv : m_raft_state_voters (soloS id c es) = some [id] := by
    unfold m_raft_state_voters
    rw [m_Now_none _ (by simp only [soloS]; omega) (by simp [soloS]) (fun e hm => (he e hm).2)]
    rfl
  rw [hv]
  simp only [Option.bind_some]
  have hs : m_raft_state_commit_s2 (soloS id c es) [id] (es.length : Int) = some (.inr (es.length : Int)) := by
    unfold m_raft_state_commit_s2
    rw [if_pos (show (soloS id c es).fRaft.fCommit < es.length from hc)]
    have hT : m_plog_Term (soloS id c es).fRaft.fHard.fLog (es.length : Int) = some ((es.getD (es.length - 1) zeroE).fTerm, true) := by
      show m_plog_Term ⟨0, 0, es⟩ _ = _
      rw [m_Term _ _ (okB_of (by omega) 0 (by omega) 0)]
      unfold termP getP
      rw [if_neg (by simp only; omega), if_pos (by simp only; omega)]
      simp only
      rw [show ((es.length : Int) - 0 - 1).toNat = es.length - 1 by omega]
    rw [hT]
    simp only [Option.bind_some]
    rw [if_pos (show (es.getD (es.length - 1) zeroE).fTerm = (soloS id c es).fRaft.fHard.fTerm from (he _ (getE_mem (by omega))).1), c1_none _ _ rfl]
    simp only [Option.bind_some]
    rw [show (soloS id c es).fRaft.fMe = id from rfl, m_Majority _ _ (by simp) (by simp)]
    simp only [Option.bind_some]
    rw [if_pos (maj_one id)]
  rw [loop_inr hs]
  rfl
/-- It commits at once what it adds. -/
theorem solo_propose (id : Int) (es : List GEntry) (s : ByteArray) (he : soloE es) (h1 : es.length + 1 ≤ 100) (hs : s.size ≤ 100) : m_raft_Propose (soloR id es) 0 s = some (soloR id (es ++ [⟨1, 0, s⟩]), [], (es.length : Int) + 1, 0) := by
  obtain ⟨hk, h0, hl⟩ := he
  unfold m_raft_Propose
  obtain ⟨t, ht⟩ := m_last es (by omega) ⟨soloR id es⟩ rfl
  rw [ht]
  simp only [Option.bind_some]
  rw [if_neg (fun h => h rfl), if_neg (by omega), if_neg (by omega), if_neg (fun h => h rfl)]
  unfold m_raft_Propose_j1
  rw [if_neg (by decide)]
  unfold m_raft_Propose_j2
  have hadd := m_Add ⟨0, 0, es⟩ [(⟨1, 0, s⟩ : GEntry)] (by simp only [List.length_singleton]; omega)
  rw [show (soloR id es).fHard.fLog = ⟨0, 0, es⟩ from rfl, show (soloR id es).fHard.fTerm = 1 from rfl, hadd]
  simp only [Option.bind_some]
  rw [if_neg (by decide)]
  unfold m_raft_Propose_j3
  have hc := solo_commit id es.length (es ++ [⟨1, 0, s⟩]) (fun e hm => by
      rcases List.mem_append.1 hm with hm | hm
      · exact hk e hm
      · simp only [List.mem_singleton] at hm; subst hm; exact ⟨rfl, kind01⟩) (by simp; omega) (by simp; omega)
  unfold soloS at hc
  simp only [soloR] at hc ⊢
  rw [hc]
  simp only [Option.bind_some]
  rw [all_none _ rfl]
  simp only [Option.bind_some]
  rw [w64_id (by omega) (by omega)]
theorem solo_get (es : List GEntry) (h : es.length ≤ 100) (i : Int) (hi : 1 ≤ i ∧ i ≤ es.length) : m_plog_Get ⟨0, 0, es⟩ i = some (es.getD (i.toNat - 1) zeroE, true) := by
  rw [m_Get _ _ (okB_of (by omega) 0 (by omega) 0)]
  unfold getP
  rw [if_pos (by simp only; omega)]
  simp only
  rw [show (i - 0 - 1).toNat = i.toNat - 1 by omega]
/-! ### RaftAlone -/
open Go.RowKit
def esC (k : Nat) : List GEntry := ⟨1, 2, ⟨#[]⟩⟩ :: (List.range k).map fun (i : Nat) => ⟨1, 0, strOfNums [IntKind.u8.wrap (i : Int)]⟩
theorem esC_len (k : Nat) : (esC k).length = k + 1 := by simp [esC]
theorem esC_ok (k : Nat) (hk : k ≤ 99) : soloE (esC k) := by
  refine ⟨fun e he => ?_, by rw [esC_len k]; omega, by rw [esC_len k]; omega⟩
  rcases List.mem_cons.1 he with rfl | he
  · exact ⟨rfl, by decide⟩
  · obtain ⟨s, _, rfl⟩ := List.mem_map.1 he
    exact ⟨rfl, kind01⟩
theorem esC_succ (k : Nat) : esC (k + 1) = esC k ++ [⟨1, 0, strOfNums [IntKind.u8.wrap (k : Int)]⟩] := by
  unfold esC; rw [List.range_succ, List.map_append]; rfl
/-- A node alone behind a snapshot. -/
def snapR (es : List GEntry) (u : Nat) (s : ByteArray) : GRaft := ⟨0, 2, 0 + 1, es.length, 3, ⟨1, 0 + 1, [0], s, ⟨u, 1, es.drop u⟩⟩, [], []⟩
theorem m_CloneE (l : List GEntry) (h : l.length ≤ 1000) : m_slices_Clone_74 l = some l := m_Clone l (by omega)
theorem solo_compact_no (es : List GEntry) (u : Int) (s : ByteArray) (h : u ≤ 0 ∨ es.length < u) : m_raft_Compact (soloR 0 es) u s = some (soloR 0 es, 1) := by
  unfold m_raft_Compact
  by_cases c : u ≤ (soloR 0 es).fHard.fLog.fBase
  · rw [if_pos c]
  · rw [if_neg c, if_pos (by
      have : ¬ u ≤ 0 := c
      show (es.length : Int) < u
      omega)]
theorem solo_compact (es : List GEntry) (u : Nat) (s : ByteArray) (he : soloE es) (h1 : 1 ≤ u) (h2 : u ≤ es.length) (hs : s.size ≤ 100) : m_raft_Compact (soloR 0 es) u s = some (snapR es u s, 0) := by
  obtain ⟨hk, h0, hl⟩ := he
  unfold m_raft_Compact
  rw [if_neg (show ¬ (u : Int) ≤ (soloR 0 es).fHard.fLog.fBase from by show ¬ (u : Int) ≤ 0; omega), if_neg (show ¬ (soloR 0 es).fCommit < (u : Int) from by show ¬ (es.length : Int) < u; omega)]
  have hC : m_plog_Cut (soloR 0 es).fHard.fLog u = some (⟨u, 1, es.drop u⟩, 0) := by
    show m_plog_Cut ⟨0, 0, es⟩ u = _
    unfold m_plog_Cut
    rw [m_Term _ _ (okB_of (by omega) 0 (by omega) 0)]
    have ht : termP ⟨0, 0, es⟩ u = (1, true) := by
      unfold termP getP
      rw [if_neg (by simp only; omega), if_pos (by simp only; omega)]
      simp only
      rw [show ((u : Int) - 0 - 1).toNat = u - 1 by omega, (hk _ (getE_mem (by omega))).1]
    rw [ht]
    simp only [Option.bind_some, if_true]
    unfold cutLo
    rw [w64_id (by omega) (by omega), if_pos (by omega)]
    simp only [Option.bind_some]
    rw [show ((u : Int) - 0).toNat = u by omega, m_CloneE _ (by rw [List.length_drop]; omega)]
    rfl
  rw [hC]
  simp only [Option.bind_some]
  rw [if_neg (fun h => h rfl), if_neg (by omega)]
  have hcut : cutHi (soloR 0 es).fHard.fLog.fEntries (w64 ((u : Int) - (soloR 0 es).fHard.fLog.fBase)) = some (es.take u) := by
    show cutHi es (w64 ((u : Int) - 0)) = _
    unfold cutHi
    rw [w64_id (by omega) (by omega), if_pos (by omega), show ((u : Int) - 0).toNat = u by omega]
  rw [hcut]
  simp only [Option.bind_some]
  rw [m_Now_none _ (by simp only [List.length_take]; omega) (by simp [soloR]) (fun e hm => (hk e (List.mem_of_mem_take hm)).2)]
  rfl
theorem ints_one (x : Int) : m_ref11_SameInts [x] [x] = some true := by rw [m_SameInts _ _ (by simp)]; simp
theorem ints_nil : m_ref11_SameInts [] [] = some true := by rw [m_SameInts _ _ (by simp)]; simp
theorem solo_same (es : List GEntry) (h : es.length ≤ 100) : m_ref12_Same (soloR 0 es) (soloR 0 es) = some true := by
  unfold m_ref12_Same
  have h1 : m_ref11_Same (soloR 0 es).fHard (soloR 0 es).fHard = some true := by
    unfold m_ref11_Same
    rw [m_SameLog _ (by show es.length ≤ _; omega), show (soloR 0 es).fHard.fVoters = [0] from rfl, ints_one]
    simp
  rw [h1, show (soloR 0 es).fVotes = [] from rfl, ints_nil]
  simp only [Option.bind_some]
  rw [if_neg (fun h => h rfl), loop_inr (r := (.inl ())) (by show m_ref12_Same_s2 (soloR 0 es) (soloR 0 es) 0 = _; unfold m_ref12_Same_s2; rw [if_neg (by simp [soloR])])]
  simp [m_ref12_Same_j1]
theorem rvoters_none (x : GRaft) (hl : x.fHard.fLog.fEntries.length ≤ 1000) (hk : ∀ e ∈ x.fHard.fLog.fEntries, e.fKind ≠ 1) : m_ref12_Voters x = some x.fHard.fVoters := by
  unfold m_ref12_Voters m_ref11_Now
  have hL : loop (fun s => m_ref11_Now_s2 x.fHard s.1 s.2) (x.fHard.fVoters, 0) = some x.fHard.fVoters := loop_run x.fHard.fLog.fEntries.length (fun k => (x.fHard.fVoters, (k : Int))) _ rfl (fun k hk' => by
    show m_ref11_Now_s2 x.fHard _ _ = _
    unfold m_ref11_Now_s2
    rw [if_pos (by omega), at_nat (by omega), w64_id (x := (k : Int) + 1) (by omega) (by omega)]
    simp only [Option.bind_some]
    rw [if_neg (hk _ (List.getElem_mem _))]; rfl) (by show m_ref11_Now_s2 x.fHard _ _ = _; unfold m_ref11_Now_s2; rw [if_neg (by omega)])
  rw [hL]
  rfl
theorem cut_get (es : List GEntry) (u : Nat) (h : es.length ≤ 100) (hu : u ≤ es.length) (i : Int) (hi : u < i ∧ i ≤ es.length) : m_plog_Get ⟨u, 1, es.drop u⟩ i = some (es.getD (i.toNat - 1) zeroE, true) := by
  rw [m_Get _ _ (okB_of (by rw [List.length_drop]; omega) u (by omega) 1)]
  unfold getP
  rw [if_pos (by simp only [List.length_drop]; omega)]
  simp only
  rw [List.getD_eq_getElem?_getD, List.getElem?_drop, List.getD_eq_getElem?_getD, show u + (i - u - 1).toNat = i.toNat - 1 by omega]
theorem cuts_j2 (n : Nat) (es : List GEntry) (u : Int) (s : ByteArray) (he : soloE es) (hn : es.length = n + 1) (hs : s.size ≤ 100) (hu : -9223372036854775808 ≤ u ∧ u ≤ 9223372036854775807) :
    m_law12_RaftCuts_j2 u s true n 0 2 (0 + 1) es.length 3 1 (0 + 1) [0] ⟨#[]⟩ 0 0 es [] [] = some true := by
  have hl := he.2.2
  unfold m_law12_RaftCuts_j2
  rw [w64_id (x := (n : Int) + 1) (by omega) (by omega)]
  have hno : (u ≤ 0 ∨ (es.length : Int) < u) → m_raft_Compact ⟨0, 2, 0 + 1, es.length, 3, ⟨1, 0 + 1, [0], ⟨#[]⟩, ⟨0, 0, es⟩⟩, [], []⟩ u s = some (soloR 0 es, 1) := fun h => solo_compact_no es u s h
  have hbad : m_law12_RaftCuts_j3 1 (soloR 0 es) 0 2 (0 + 1) es.length 3 1 (0 + 1) [0] ⟨#[]⟩ 0 0 es [] [] true n u s = some true := by
    unfold m_law12_RaftCuts_j3
    rw [if_pos (by decide)]
    have := solo_same es hl
    unfold soloR at this ⊢
    rw [this]
    simp
  by_cases c1 : u ≤ 0
  · rw [hno (.inl c1)]
    simp only [Option.bind_some]
    rw [if_neg (by omega), if_neg (by simp)]
    exact hbad
  · by_cases c2 : (es.length : Int) < u
    · rw [hno (.inr c2)]
      simp only [Option.bind_some]
      rw [if_pos (by omega), show (decide (u ≤ (n : Int) + 1)) = false from decide_eq_false (by omega), if_neg (by simp)]
      exact hbad
    · obtain ⟨k, rfl⟩ : ∃ k : Nat, u = k := ⟨u.toNat, by omega⟩
      have hc := solo_compact es k s he (by omega) (by omega) hs
      unfold soloR at hc
      rw [hc]
      simp only [Option.bind_some]
      rw [if_pos (by omega), show (decide ((k : Int) ≤ (n : Int) + 1)) = true from decide_eq_true (by omega), if_neg (by simp)]
      unfold m_law12_RaftCuts_j3
      rw [if_neg (fun h => h rfl), w64_id (x := (k : Int) + 1) (by omega) (by omega)]
      have hL : loop (fun s' => m_law12_RaftCuts_s5 n 0 0 es (snapR es k s) s') ((k : Int) + 1) = some (.inl ()) := loop_run (n + 1 - k) (fun j => (k : Int) + 1 + j) _ (by simp) (fun j hj => by
        unfold m_law12_RaftCuts_s5
        rw [w64_id (x := (n : Int) + 1) (by omega) (by omega), if_pos (by omega), solo_get es hl _ (by omega), show m_plog_Get (snapR es k s).fHard.fLog ((k : Int) + 1 + j) = _ from cut_get es k hl (by omega) _ (by omega), w64_id (x := (k : Int) + 1 + j + 1) (by omega) (by omega)]
        simp
        omega) (by
        unfold m_law12_RaftCuts_s5
        rw [w64_id (x := (n : Int) + 1) (by omega) (by omega), if_neg (by omega)])
      rw [hL]
      simp only [Option.bind_some, Sum.elim_inl]
      unfold m_law12_RaftCuts_j4
      rw [rvoters_none (snapR es k s) (by show (es.drop k).length ≤ _; rw [List.length_drop]; omega) (fun e hm => (he.1 e (List.mem_of_mem_drop hm)).2)]
      simp only [Option.bind_some]
      rw [rvoters_none _ (by simp only; omega) (fun e hm => (he.1 e hm).2)]
      simp only [Option.bind_some]
      rw [show (snapR es k s).fHard.fVoters = [0] from rfl, ints_one]
      simp only [Option.bind_some]
      rw [if_pos trivial, if_pos trivial, if_pos (show (snapR es k s).fCommit = es.length from rfl), if_pos (show (snapR es k s).fHard.fTerm = 1 from rfl), if_pos (show (snapR es k s).fHard.fSnap = s from rfl), if_pos (show (snapR es k s).fHard.fLog.fBase = k from rfl), show m_plog_Last (snapR es k s).fHard.fLog = _ from m_Last ⟨k, 1, es.drop k⟩ (okB_of (by rw [List.length_drop]; omega) k (by omega) 1)]
      simp only [Option.bind_some, List.length_drop]
      rw [w64_id (x := (n : Int) + 1) (by omega) (by omega)]
      simp
      omega
theorem q_RaftCuts (p0 : Int) (p1 : Int) (p2 : ByteArray) (h0 : ((-9223372036854775808) ≤ p0 ∧ p0 ≤ 9223372036854775807)) (h1 : ((-9223372036854775808) ≤ p1 ∧ p1 ≤ 9223372036854775807)) (h2 : p2.size ≤ 9223372036854775807) : m_law12_RaftCuts p0 p1 p2 = some true := by
  unfold m_law12_RaftCuts
  rw [awake12]
  simp only [Option.bind_some]
  have hj : ∀ s : ByteArray, s.size ≤ 100 → m_law12_RaftCuts_j1 p0 p1 true s = some true := fun s hs => by
    unfold m_law12_RaftCuts_j1
    have hb := solo_begin ⟨0, by omega⟩
    cases hN : m_raft_New 0 ⟨0, 0, [0], ⟨#[]⟩, ⟨0, 0, []⟩⟩ 0 with
    | none => have hb' : ((m_raft_New 0 ⟨0, 0, [0], ⟨#[]⟩, ⟨0, 0, []⟩⟩ 0).bind fun x => m_raft_Tick x 3) = _ := hb; rw [hN] at hb'; cases hb'
    | some x =>
      have hb' : ((m_raft_New 0 ⟨0, 0, [0], ⟨#[]⟩, ⟨0, 0, []⟩⟩ 0).bind fun x => m_raft_Tick x 3) = some (soloR 0 [⟨1, 2, ⟨#[]⟩⟩], []) := hb
      rw [hN] at hb'
      simp only [Option.bind_some] at hb' ⊢
      rw [hb']
      simp only [Option.bind_some]
      obtain ⟨v, hv, hv0, hv1⟩ := m_pick p0 30 h0 (by decide)
      rw [hv]
      simp only [Option.bind_some]
      obtain ⟨m, rfl⟩ : ∃ m : Nat, v = m := ⟨v.toNat, by omega⟩
      rw [w64_id (by omega) (by omega)]
      have hL := loop_run (step := fun s => m_law12_RaftCuts_s6 s.1 s.2.1 s.2.2.1 s.2.2.2.1 s.2.2.2.2.1 s.2.2.2.2.2.1 s.2.2.2.2.2.2.1 s.2.2.2.2.2.2.2.1 s.2.2.2.2.2.2.2.2.1 s.2.2.2.2.2.2.2.2.2.1 s.2.2.2.2.2.2.2.2.2.2.1 s.2.2.2.2.2.2.2.2.2.2.2.1 s.2.2.2.2.2.2.2.2.2.2.2.2.1 s.2.2.2.2.2.2.2.2.2.2.2.2.2.1 s.2.2.2.2.2.2.2.2.2.2.2.2.2.2.1 s.2.2.2.2.2.2.2.2.2.2.2.2.2.2.2) (m + 1)
        (fun k => (1 + (m : Int), (k : Int), 0, 2, 0 + 1, ((esC k).length : Int), 3, 1, 0 + 1, [0], ⟨#[]⟩, 0, 0, esC k, [], []))
        (1 + (m : Int), 0, 2, 0 + 1, ((esC (m + 1)).length : Int), 3, 1, 0 + 1, [0], ⟨#[]⟩, 0, 0, esC (m + 1), [], [])
        (s0 := (1 + (m : Int), 0, (soloR 0 [⟨1, 2, ⟨#[]⟩⟩]).fMe, (soloR 0 [⟨1, 2, ⟨#[]⟩⟩]).fRole, (soloR 0 [⟨1, 2, ⟨#[]⟩⟩]).fLeader, (soloR 0 [⟨1, 2, ⟨#[]⟩⟩]).fCommit, (soloR 0 [⟨1, 2, ⟨#[]⟩⟩]).fLeft, (soloR 0 [⟨1, 2, ⟨#[]⟩⟩]).fHard.fTerm, (soloR 0 [⟨1, 2, ⟨#[]⟩⟩]).fHard.fVote, (soloR 0 [⟨1, 2, ⟨#[]⟩⟩]).fHard.fVoters, (soloR 0 [⟨1, 2, ⟨#[]⟩⟩]).fHard.fSnap, (soloR 0 [⟨1, 2, ⟨#[]⟩⟩]).fHard.fLog.fBase, (soloR 0 [⟨1, 2, ⟨#[]⟩⟩]).fHard.fLog.fBaseTerm, (soloR 0 [⟨1, 2, ⟨#[]⟩⟩]).fHard.fLog.fEntries, (soloR 0 [⟨1, 2, ⟨#[]⟩⟩]).fVotes, (soloR 0 [⟨1, 2, ⟨#[]⟩⟩]).fMarks)) rfl
        (fun k hk => by
          show m_law12_RaftCuts_s6 (1 + (m : Int)) (k : Int) 0 2 (0 + 1) ((esC k).length : Int) 3 1 (0 + 1) [0] ⟨#[]⟩ 0 0 (esC k) [] [] = _
          unfold m_law12_RaftCuts_s6
          rw [if_pos (by omega)]
          have hp := solo_propose 0 (esC k) (strOfNums [IntKind.u8.wrap (k : Int)]) (esC_ok k (by omega)) (by rw [esC_len]; omega) (by rw [str_size]; simp)
          rw [← esC_succ] at hp
          have hp' : m_raft_Propose ⟨0, 2, 0 + 1, ((esC k).length : Int), 3, ⟨1, 0 + 1, [0], ⟨#[]⟩, ⟨0, 0, esC k⟩⟩, [], []⟩ 0 (strOfNums [IntKind.u8.wrap (k : Int)]) = _ := hp
          rw [hp', w64_id (x := (k : Int) + 1) (by omega) (by omega)]
          rfl)
        (by
          show m_law12_RaftCuts_s6 (1 + (m : Int)) ((m + 1 : Nat) : Int) 0 2 (0 + 1) ((esC (m + 1)).length : Int) 3 1 (0 + 1) [0] ⟨#[]⟩ 0 0 (esC (m + 1)) [] [] = _
          unfold m_law12_RaftCuts_s6
          rw [if_neg (by omega)])
      rw [hL]
      simp only [Option.bind_some]
      rw [show 1 + (m : Int) = ((m + 1 : Nat) : Int) by omega]
      exact cuts_j2 (m + 1) (esC (m + 1)) p1 s (esC_ok _ (by omega)) (esC_len _) hs h1
  by_cases c : (100 : Int) < p2.size
  · rw [if_pos c]
    unfold scutHi
    rw [if_pos (by omega)]
    simp only [Option.bind_some]
    exact hj _ (by rw [ByteArray.size_extract]; omega)
  · rw [if_neg c]
    exact hj _ (by omega)
end Go.Proofs.Ytoglbdaagfoddaa
