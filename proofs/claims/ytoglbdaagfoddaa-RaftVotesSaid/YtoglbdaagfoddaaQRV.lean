import Derived.Test.YtoglbdaagfoddaaKRV
set_option linter.unusedVariables false
set_option linter.unusedSimpArgs false
set_option maxRecDepth 16384
namespace Go.Proofs.Ytoglbdaagfoddaa
open Go.RowKit
open Go.RowKit
/-! ### Bytes -/
/-! ### Numbers read -/
open Go.RowKit
theorem awake12 : m_law12_awake = some true := by decide +kernel
/-! ### What is in a list of numbers -/
open Go.RowKit
theorem m_pick (x n : Int) (hx : -9223372036854775808 ≤ x ∧ x ≤ 9223372036854775807) (hn : 0 < n) : ∃ v, m_law12_pick x n = some v ∧ 0 ≤ v ∧ v < n := by
  have hj : ∀ y : Int, 0 ≤ y → ∃ v, m_law12_pick_j1 n y = some v ∧ 0 ≤ v ∧ v < n := fun y hy => by
    unfold m_law12_pick_j1 dvd
    rw [if_pos (by omega)]
    exact ⟨_, rfl, Int.tmod_nonneg _ hy, Int.tmod_lt_of_pos _ hn⟩
  unfold m_law12_pick
  by_cases h : x < 0
  · rw [if_pos h, w64_id (x := x + 1) (by omega) (by omega), w64_id (x := 0 - (x + 1)) (by omega) (by omega)]
    exact hj _ (by omega)
  · rw [if_neg h]
    exact hj _ (by omega)
open Go.RowKit
open Go.RowKit
theorem aixV {n : Nat} {x : Int} {c : Nat} (h : x = (c : Int)) (hc : c < n) : aix n x = some c := by
  subst h; rw [aix, if_pos ⟨by omega, by omega⟩, Int.toNat_natCast]
theorem setNV {α : Type} {l : List α} {p : Nat} (h : p < l.length) (v : α) : setN l p v = some (l.set p v) := if_pos h
/-- A voter: its term, its vote, what is left of its time. -/
def voterR (t u T v lf : Int) : GRaft := ⟨0, 0, 0, 0, lf, ⟨T, v, [0, 1, 2, 3, 4], ⟨#[]⟩, ⟨0, 0, [⟨t, 0, ⟨#[]⟩⟩, ⟨u, 0, ⟨#[]⟩⟩]⟩⟩, [], []⟩
def askN (f m b g : Int) : GNote := ⟨1, f, 0, m, b, g, 0, false, [], [], ⟨#[]⟩⟩
def newV (u b g : Int) : Bool := decide (u < g ∨ g = u ∧ 2 ≤ b)
theorem ask_check : ∀ f : Fin 4, ∀ m : Fin 6, ∀ b : Fin 4, ∀ g : Fin 7, g.val ≤ m.val + 1 → m_raft_Check (askN ((f.val + 1 : Nat) : Int) ((m.val + 1 : Nat) : Int) (b.val : Int) (g.val : Int)) = some 0 := by decide +kernel
theorem ask_ok {f m b g : Int} (hf : 1 ≤ f ∧ f ≤ 4) (hm : 1 ≤ m ∧ m ≤ 6) (hb : 0 ≤ b ∧ b ≤ 3) (hg : 0 ≤ g ∧ g ≤ m) : m_raft_Check (askN f m b g) = some 0 := by
  have h := ask_check ⟨(f - 1).toNat, by omega⟩ ⟨(m - 1).toNat, by omega⟩ ⟨b.toNat, by omega⟩ ⟨g.toNat, by omega⟩ (by simp only; omega)
  have e1 : (((f - 1).toNat + 1 : Nat) : Int) = f := by omega
  have e2 : (((m - 1).toNat + 1 : Nat) : Int) = m := by omega
  have e3 : ((b.toNat : Nat) : Int) = b := by omega
  have e4 : ((g.toNat : Nat) : Int) = g := by omega
  simp only [e1, e2, e3, e4] at h
  exact h
theorem newer_of (t u b g : Int) : m_plog_Newer (⟨0, 0, [(⟨t, 0, ⟨#[]⟩⟩ : GEntry), (⟨u, 0, ⟨#[]⟩⟩ : GEntry)]⟩ : GLog) b g = some (newV u b g) := by
  have hL : m_plog_Last (⟨0, 0, [(⟨t, 0, ⟨#[]⟩⟩ : GEntry), (⟨u, 0, ⟨#[]⟩⟩ : GEntry)]⟩ : GLog) = some 2 := rfl
  have hT : m_plog_Term (⟨0, 0, [(⟨t, 0, ⟨#[]⟩⟩ : GEntry), (⟨u, 0, ⟨#[]⟩⟩ : GEntry)]⟩ : GLog) 2 = some (u, true) := rfl
  unfold m_plog_Newer
  rw [hL, Option.bind_some, hT, Option.bind_some]
  unfold newV
  by_cases c1 : u < g
  · rw [if_pos c1, decide_eq_true (.inl c1)]
  · rw [if_neg c1]
    by_cases c2 : g = u
    · rw [if_pos c2, Option.bind_some]
      congr 1
      rw [decide_eq_decide]
      exact ⟨fun h => .inr ⟨c2, h⟩, fun h => by rcases h with h | h; exact absurd h c1; exact h.2⟩
    · rw [if_neg c2, decide_eq_false (fun h => by rcases h with h | h; exact c1 h; exact c2 h.1)]
theorem recv_j1 {t u T v lf f m b g : Int} (hf : 1 ≤ f ∧ f ≤ 4) (hm : 1 ≤ m ∧ m ≤ 6) (hT : m ≤ T) :
    ∃ c : Bool, m_raft_state_receive (⟨voterR t u T v lf⟩ : Graft_state) (askN f m b g) 5 = some (⟨if c = true then voterR t u T (f + 1) 5 else voterR t u T v lf⟩, [⟨2, 0, f, T, 0, 0, 0, c, [], [], ⟨#[]⟩⟩]) ∧ (c = true → m = T ∧ (v = 0 ∨ v = f + 1) ∧ newV u b g = true) := by
  have hw : w64 (f + 1) = f + 1 := w64_id (by omega) (by omega)
  have J : ∀ c : Bool, m_raft_state_receive_j1 (⟨voterR t u T v lf⟩ : Graft_state) (askN f m b g) 5 c = some (⟨if c = true then voterR t u T (f + 1) 5 else voterR t u T v lf⟩, [⟨2, 0, f, T, 0, 0, 0, c, [], [], ⟨#[]⟩⟩]) := fun c => by
    unfold m_raft_state_receive_j1
    show (if c = true then m_raft_state_receive_j2 _ _ c 5 (w64 (f + 1)) else _) = _
    rw [hw]
    cases c <;> rfl
  unfold m_raft_state_receive
  rw [if_pos (show (askN f m b g).fKind = 1 from rfl)]
  show ∃ c : Bool, (if m < T then _ else if v = 0 then (if (0 : Int) = 0 then (m_plog_Newer _ b g).bind _ else _) else if v = w64 (f + 1) then (if (0 : Int) = 0 then (m_plog_Newer _ b g).bind _ else _) else _) = _ ∧ _
  by_cases c1 : m < T
  · rw [if_pos c1]; exact ⟨false, J false, fun h => by cases h⟩
  rw [if_neg c1]
  have hN : m_plog_Newer (⟨voterR t u T v lf⟩ : Graft_state).fRaft.fHard.fLog b g = some (newV u b g) := newer_of t u b g
  by_cases c2 : v = 0
  · rw [if_pos c2, if_pos rfl, hN, Option.bind_some]
    exact ⟨_, J _, fun h => ⟨by omega, .inl c2, h⟩⟩
  rw [if_neg c2, hw]
  by_cases c3 : v = f + 1
  · rw [if_pos c3, if_pos rfl, hN, Option.bind_some]
    exact ⟨_, J _, fun h => ⟨by omega, .inr c3, h⟩⟩
  · rw [if_neg c3]; exact ⟨false, J false, fun h => by cases h⟩
theorem recv_of {t u T v lf f m b g : Int} (hf : 1 ≤ f ∧ f ≤ 4) (hm : 1 ≤ m ∧ m ≤ 6) (hb : 0 ≤ b ∧ b ≤ 3) (hg : 0 ≤ g ∧ g ≤ m) (hT : 1 ≤ T ∧ T ≤ 6) :
    ∃ (T' v' lf' : Int) (c : Bool), m_raft_Receive (voterR t u T v lf) (askN f m b g) 5 = some (voterR t u T' (if c = true then f + 1 else v') lf', [⟨2, 0, f, T', 0, 0, 0, c, [], [], ⟨#[]⟩⟩]) ∧
      ((T < m ∧ T' = m ∧ v' = 0) ∨ (m ≤ T ∧ T' = T ∧ v' = v)) ∧ (c = true → m = T' ∧ (v' = 0 ∨ v' = f + 1) ∧ newV u b g = true) := by
  unfold m_raft_Receive
  rw [ask_ok hf hm hb hg, Option.bind_some, if_neg (fun h => h rfl), if_neg (show ¬ ((askN f m b g).fTo ≠ (voterR t u T v lf).fMe) from fun h => h rfl)]
  have fin : ∀ (T v lf : Int) (hT : m ≤ T), ∃ (lf' : Int) (c : Bool), m_raft_Receive_j1 (askN f m b g) 5 0 0 0 0 lf T v [0, 1, 2, 3, 4] ⟨#[]⟩ 0 0 [(⟨t, 0, ⟨#[]⟩⟩ : GEntry), (⟨u, 0, ⟨#[]⟩⟩ : GEntry)] [] [] = some (voterR t u T (if c = true then f + 1 else v) lf', [⟨2, 0, f, T, 0, 0, 0, c, [], [], ⟨#[]⟩⟩]) ∧ (c = true → m = T ∧ (v = 0 ∨ v = f + 1) ∧ newV u b g = true) := fun T v lf hT => by
    obtain ⟨c, h1, h2⟩ := recv_j1 (t := t) (u := u) (v := v) (lf := lf) (b := b) (g := g) hf hm hT
    unfold m_raft_Receive_j1
    show ∃ (lf' : Int) (c : Bool), (m_raft_state_receive (⟨voterR t u T v lf⟩ : Graft_state) (askN f m b g) (max 5 1)).bind _ = _ ∧ _
    rw [show (max 5 1 : Int) = 5 from rfl, h1, Option.bind_some]
    cases c with
    | true => exact ⟨5, true, rfl, h2⟩
    | false => exact ⟨lf, false, rfl, h2⟩
  by_cases c1 : T < m
  · rw [if_pos (show (voterR t u T v lf).fHard.fTerm < (askN f m b g).fTerm from c1)]
    have hd : m_raft_state_down (⟨voterR t u T v lf⟩ : Graft_state) (askN f m b g).fTerm = some ⟨voterR t u m 0 lf⟩ := by
      unfold m_raft_state_down
      rw [if_pos (show (voterR t u T v lf).fHard.fTerm ≠ (askN f m b g).fTerm from fun h => by have h' : T = m := h; omega)]
      rfl
    rw [hd, Option.bind_some]
    obtain ⟨lf', c, h1, h2⟩ := fin m 0 lf (Int.le_refl m)
    exact ⟨m, 0, lf', c, h1, .inl ⟨c1, rfl, rfl⟩, h2⟩
  · rw [if_neg (show ¬ ((voterR t u T v lf).fHard.fTerm < (askN f m b g).fTerm) from c1)]
    obtain ⟨lf', c, h1, h2⟩ := fin T v lf (by omega)
    exact ⟨T, v, lf', c, h1, .inr ⟨by omega, rfl, rfl⟩, h2⟩
/-- What holds of the votes given. -/
structure VOk (l : List Int) (T v : Int) : Prop where
  len : l.length = 8
  term : 1 ≤ T ∧ T ≤ 6
  vote : 0 ≤ v ∧ v ≤ 5
  pos : ∀ x ∈ l, 0 ≤ x
  later : ∀ j : Nat, T < j → j < 8 → l[j]? = some 0
  now : ∀ x, l[T.toNat]? = some x → x ≠ 0 → v = x + 1
def stV (t u : Int) (k : Nat) (l : List Int) (T v lf : Int) : (Int × Int × (List Int) × Int × Int × Int × Int × Int × Int × Int × (List Int) × ByteArray × Int × Int × (List GEntry) × (List Int) × (List GMark)) :=
  (u, (k : Int), l, 0, 0, 0, 0, lf, T, v, [0, 1, 2, 3, 4], ⟨#[]⟩, 0, 0, [(⟨t, 0, ⟨#[]⟩⟩ : GEntry), (⟨u, 0, ⟨#[]⟩⟩ : GEntry)], [], [])
theorem votes_j5 {t u T v lf f m : Int} {l : List Int} {k : Nat} (hk : k < 60) (h : VOk l T v) (hf : 1 ≤ f ∧ f ≤ 4) (hm : m = T) (hv : v = 0 ∨ v = f + 1) :
    m_law12_RaftVotes_j5 m l f (voterR t u T (f + 1) lf) u (k : Int) false = some (.inl (stV t u (k + 1) (l.set T.toNat f) T (f + 1) lf)) ∧ VOk (l.set T.toNat f) T (f + 1) := by
  obtain ⟨h1, h2, h3, h4, h5, h6⟩ := h
  subst hm
  have hlt : m.toNat < l.length := by omega
  have ha : aix 8 m = some m.toNat := aixV (by omega) (by omega)
  have hx : l[m.toNat]? = some l[m.toNat] := List.getElem?_eq_getElem hlt
  have hw : w64 ((k : Int) + 1) = ((k + 1 : Nat) : Int) := by rw [w64_id (by omega) (by omega)]; omega
  have hwf : w64 (f + 1) = f + 1 := w64_id (by omega) (by omega)
  have h0 : 0 + m.toNat * 1 = m.toNat := by omega
  constructor
  · unfold m_law12_RaftVotes_j5
    rw [ha, Option.bind_some, h0, hx, Option.bind_some]
    have hend : (if (voterR t u m (f + 1) lf).fHard.fTerm ≠ m then some (.inr (.inr false)) else if (voterR t u m (f + 1) lf).fHard.fVote ≠ w64 (f + 1) then some (.inr (.inr false)) else (some m.toNat).bind fun a1653 => (setN l (0 + a1653 * 1) f).bind fun l1654 => some (.inl (u, w64 ((k : Int) + 1), l1654, (voterR t u m (f + 1) lf).fMe, (voterR t u m (f + 1) lf).fRole, (voterR t u m (f + 1) lf).fLeader, (voterR t u m (f + 1) lf).fCommit, (voterR t u m (f + 1) lf).fLeft, (voterR t u m (f + 1) lf).fHard.fTerm, (voterR t u m (f + 1) lf).fHard.fVote, (voterR t u m (f + 1) lf).fHard.fVoters, (voterR t u m (f + 1) lf).fHard.fSnap, (voterR t u m (f + 1) lf).fHard.fLog.fBase, (voterR t u m (f + 1) lf).fHard.fLog.fBaseTerm, (voterR t u m (f + 1) lf).fHard.fLog.fEntries, (voterR t u m (f + 1) lf).fVotes, (voterR t u m (f + 1) lf).fMarks)) : Option ((Int × Int × (List Int) × Int × Int × Int × Int × Int × Int × Int × (List Int) × ByteArray × Int × Int × (List GEntry) × (List Int) × (List GMark)) ⊕ (Unit ⊕ Bool))) = some (.inl (stV t u (k + 1) (l.set m.toNat f) m (f + 1) lf)) := by
      rw [if_neg (show ¬ ((voterR t u m (f + 1) lf).fHard.fTerm ≠ m) from fun g => g rfl), if_neg (show ¬ ((voterR t u m (f + 1) lf).fHard.fVote ≠ w64 (f + 1)) from fun g => g hwf.symm), Option.bind_some, h0, setNV hlt, Option.bind_some, hw]
      rfl
    by_cases c : l[m.toNat] ≠ 0
    · have hxv := h6 _ hx c
      have hp := h4 _ (List.getElem_mem hlt)
      have hfx : l[m.toNat] = f := by omega
      rw [if_pos c, Option.bind_some, h0, hx, Option.bind_some, if_neg (fun g => g hfx), if_neg (by simp)]
      exact hend
    · rw [if_neg c, if_neg (by simp)]
      exact hend
  · refine ⟨by rw [List.length_set]; exact h1, h2, by omega, fun x hx => ?_, fun j hj hj8 => ?_, fun x hx hx0 => ?_⟩
    · rcases List.mem_or_eq_of_mem_set hx with g | g
      · exact h4 x g
      · omega
    · rw [List.getElem?_set_ne (by omega)]; exact h5 j hj hj8
    · rw [List.getElem?_set_self hlt] at hx
      cases hx; rfl
theorem votes_j3 {t u T v lf : Int} {l : List Int} {k : Nat} (x : Glaw12_Act) (hx : Glaw12_Act.ok x) (hk : k < 60) (h : VOk l T v) :
    ∃ (l' : List Int) (T' v' lf' : Int), m_law12_RaftVotes_j3 x u l (k : Int) 0 0 0 0 lf T v [0, 1, 2, 3, 4] ⟨#[]⟩ 0 0 [(⟨t, 0, ⟨#[]⟩⟩ : GEntry), (⟨u, 0, ⟨#[]⟩⟩ : GEntry)] [] [] = some (.inl (stV t u (k + 1) l' T' v' lf')) ∧ VOk l' T' v' := by
  obtain ⟨-, x2, x3, x4, x5⟩ := hx
  obtain ⟨f, f1, f2, f3⟩ := m_pick x.fA 4 x2 (by decide)
  obtain ⟨m, m1, m2, m3⟩ := m_pick x.fPick 6 x4 (by decide)
  obtain ⟨b, b1, b2, b3⟩ := m_pick x.fB 4 x3 (by decide)
  unfold m_law12_RaftVotes_j3
  rw [f1, Option.bind_some, m1, Option.bind_some, b1, Option.bind_some, w64_id (x := 1 + f) (by omega) (by omega), w64_id (x := 1 + m) (by omega) (by omega)]
  unfold m_law12_RaftVotes_j4
  rw [w64_id (x := 1 + m + 1) (by omega) (by omega)]
  obtain ⟨g, g1, g2, g3⟩ := m_pick x.fTimeout (1 + m + 1) x5 (by omega)
  rw [g1, Option.bind_some]
  obtain ⟨T', v', lf', c, r1, r2, r3⟩ := recv_of (t := t) (u := u) (v := v) (lf := lf) (f := 1 + f) (m := 1 + m) (b := b) (g := g) ⟨by omega, by omega⟩ ⟨by omega, by omega⟩ ⟨by omega, by omega⟩ ⟨by omega, by omega⟩ h.term
  have r1' : m_raft_Receive (⟨0, 0, 0, 0, lf, (⟨T, v, [0, 1, 2, 3, 4], ⟨#[]⟩, (⟨0, 0, [(⟨t, 0, ⟨#[]⟩⟩ : GEntry), (⟨u, 0, ⟨#[]⟩⟩ : GEntry)]⟩ : GLog)⟩ : GHard), [], []⟩ : GRaft) (⟨1, 1 + f, 0, 1 + m, b, g, 0, false, ([] : List GEntry), ([] : List Int), (⟨#[]⟩ : ByteArray)⟩ : GNote) 5 = _ := r1
  have hV : VOk l T' v' := by
    obtain ⟨h1, h2, h3, h4, h5, h6⟩ := h
    rcases r2 with ⟨q1, rfl, rfl⟩ | ⟨q1, rfl, rfl⟩
    · refine ⟨h1, by omega, by omega, h4, fun j hj hj8 => h5 j (by omega) hj8, fun y hy hy0 => ?_⟩
      rw [h5 (1 + m).toNat (by omega) (by omega)] at hy
      cases hy
      exact absurd rfl hy0
    · exact ⟨h1, h2, h3, h4, h5, h6⟩
  rw [r1', Option.bind_some]
  rw [if_neg (show ¬ (((([(⟨2, 0, 1 + f, T', 0, 0, 0, c, [], [], ⟨#[]⟩⟩ : GNote)] : List GNote).length : Nat) : Int) ≠ 1) from fun q => q rfl)]
  show ∃ (l' : List Int) (T'' v'' lf'' : Int), (some (⟨2, 0, 1 + f, T', 0, 0, 0, c, [], [], ⟨#[]⟩⟩ : GNote)).bind _ = _ ∧ _
  rw [Option.bind_some, if_neg (fun q => q rfl)]
  show ∃ (l' : List Int) (T'' v'' lf'' : Int), (some (⟨2, 0, 1 + f, T', 0, 0, 0, c, [], [], ⟨#[]⟩⟩ : GNote)).bind _ = _ ∧ _
  rw [Option.bind_some, if_neg (fun q => q rfl)]
  show ∃ (l' : List Int) (T'' v'' lf'' : Int), (some (⟨2, 0, 1 + f, T', 0, 0, 0, c, [], [], ⟨#[]⟩⟩ : GNote)).bind _ = _ ∧ _
  rw [Option.bind_some]
  cases c with
  | false =>
    rw [if_neg (by simp), w64_id (x := (k : Int) + 1) (by omega) (by omega)]
    exact ⟨l, T', v', lf', rfl, hV⟩
  | true =>
    obtain ⟨q1, q2, q3⟩ := r3 rfl
    obtain ⟨e1, e2⟩ := votes_j5 (t := t) (u := u) (lf := lf') hk hV (f := 1 + f) (m := 1 + m) ⟨by omega, by omega⟩ q1 q2
    have q3 := of_decide_eq_true q3
    rw [if_pos rfl, if_neg (by omega)]
    refine ⟨_, _, _, lf', ?_, e2⟩
    by_cases c2 : g = u
    · rw [if_pos c2, decide_eq_false (by omega)]; exact e1
    · rw [if_neg c2]; exact e1
theorem q_RaftVotes (p0 : List Glaw12_Act) (p1 : Garray33) (h0 : (p0.length ≤ 9223372036854775807 ∧ ∀ a ∈ p0, Glaw12_Act.ok a)) (h1 : Garray33.ok p1) : m_law12_RaftVotes p0 p1 = some true := by
  obtain ⟨a, a1, a2, a3⟩ := m_pick p1.a0 2 h1.1 (by decide)
  obtain ⟨b, b1, b2, b3⟩ := m_pick p1.a1 2 h1.2 (by decide)
  rw [m_law12_RaftVotes, awake12, Option.bind_some, a1, Option.bind_some, b1, Option.bind_some, w64_id (x := 1 + a) (by omega) (by omega), w64_id (x := 1 + a + b) (by omega) (by omega)]
  generalize ht : 1 + a = t
  generalize hu : t + b = u
  have hnew : ∀ T v : Int, m_raft_New 0 (⟨T, v, [0, 1, 2, 3, 4], (⟨#[]⟩ : ByteArray), (⟨0, 0, [(⟨t, 0, (⟨#[]⟩ : ByteArray)⟩ : GEntry), (⟨u, 0, (⟨#[]⟩ : ByteArray)⟩ : GEntry)]⟩ : GLog)⟩ : GHard) 0 = some (voterR t u T v 1) := fun T v => rfl
  rw [hnew, Option.bind_some]
  obtain ⟨r, hr, hC⟩ := loop_rule (step := fun s => m_law12_RaftVotes_s2 p0 s.1 s.2.1 s.2.2.1 s.2.2.2.1 s.2.2.2.2.1 s.2.2.2.2.2.1 s.2.2.2.2.2.2.1 s.2.2.2.2.2.2.2.1 s.2.2.2.2.2.2.2.2.1 s.2.2.2.2.2.2.2.2.2.1 s.2.2.2.2.2.2.2.2.2.2.1 s.2.2.2.2.2.2.2.2.2.2.2.1 s.2.2.2.2.2.2.2.2.2.2.2.2.1 s.2.2.2.2.2.2.2.2.2.2.2.2.2.1 s.2.2.2.2.2.2.2.2.2.2.2.2.2.2.1 s.2.2.2.2.2.2.2.2.2.2.2.2.2.2.2.1 s.2.2.2.2.2.2.2.2.2.2.2.2.2.2.2.2)
    (fun s => ∃ (k : Nat) (l : List Int) (T v lf : Int), s = stV t u k l T v lf ∧ k ≤ 60 ∧ VOk l T v) (fun s => (60 - s.2.1).toNat) (fun r => r = .inl ()) (fun s hs => by
      obtain ⟨k, l, T, v, lf, rfl, hk, hV⟩ := hs
      show (∃ s', m_law12_RaftVotes_s2 p0 u (k : Int) l 0 0 0 0 lf T v [0, 1, 2, 3, 4] ⟨#[]⟩ 0 0 [(⟨t, 0, ⟨#[]⟩⟩ : GEntry), (⟨u, 0, ⟨#[]⟩⟩ : GEntry)] [] [] = some (.inl s') ∧ _ ∧ _) ∨ ∃ r, m_law12_RaftVotes_s2 p0 u (k : Int) l 0 0 0 0 lf T v [0, 1, 2, 3, 4] ⟨#[]⟩ 0 0 [(⟨t, 0, ⟨#[]⟩⟩ : GEntry), (⟨u, 0, ⟨#[]⟩⟩ : GEntry)] [] [] = some (.inr r) ∧ _
      unfold m_law12_RaftVotes_s2
      by_cases c1 : (k : Int) < (p0.length : Int)
      case neg => rw [if_neg c1]; exact .inr ⟨_, rfl, rfl⟩
      rw [if_pos c1]
      by_cases c2 : (k : Int) < 60
      case neg => rw [if_neg c2]; exact .inr ⟨_, rfl, rfl⟩
      have hkl : k < p0.length := by omega
      have hx := h0.2 _ (List.getElem_mem hkl)
      rw [if_pos c2, at_nat hkl, Option.bind_some]
      obtain ⟨d, d1, d2, d3⟩ := m_pick p0[k].fKind 5 hx.1 (by decide)
      rw [d1, Option.bind_some]
      left
      by_cases c3 : d = 4
      · rw [if_pos c3, hnew, Option.bind_some]
        obtain ⟨l', T', v', lf', e1, e2⟩ := votes_j3 (t := t) (u := u) (lf := 1) (k := k) p0[k] hx (by omega) hV
        refine ⟨stV t u (k + 1) l' T' v' lf', e1, ⟨k + 1, l', T', v', lf', rfl, by omega, e2⟩, ?_⟩
        show ((60 : Int) - ((k + 1 : Nat) : Int)).toNat < ((60 : Int) - (k : Int)).toNat
        omega
      · rw [if_neg c3]
        obtain ⟨l', T', v', lf', e1, e2⟩ := votes_j3 (t := t) (u := u) (lf := lf) (k := k) p0[k] hx (by omega) hV
        refine ⟨stV t u (k + 1) l' T' v' lf', e1, ⟨k + 1, l', T', v', lf', rfl, by omega, e2⟩, ?_⟩
        show ((60 : Int) - ((k + 1 : Nat) : Int)).toNat < ((60 : Int) - (k : Int)).toNat
        omega)
    (s0 := stV t u 0 (List.replicate 8 0) u 0 1) ⟨0, _, u, 0, 1, rfl, by omega, ⟨rfl, by omega, by omega, fun x hx => by have := List.eq_of_mem_replicate hx; omega, fun j _ hj => by rw [List.getElem?_replicate, if_pos hj], fun x hx hx0 => by
      rw [List.getElem?_replicate] at hx
      split at hx
      · cases hx; exact absurd rfl hx0
      · cases hx⟩⟩
  subst hC
  show (loop _ (stV t u 0 (List.replicate 8 0) u 0 1)).bind _ = _
  rw [hr]
  rfl
end Go.Proofs.Ytoglbdaagfoddaa
