import Derived.Test.YtildknbbpkbkeaaT6
set_option maxRecDepth 16384
set_option maxHeartbeats 4000000
set_option linter.unusedVariables false
set_option linter.unusedSimpArgs false
namespace Go.Proofs.Ytildknbbpkbkeaa
open Go.RowKit

def withinI (n : Int) : Bool := decide (0 ≤ n ∧ n ≤ 1099511627776)
theorem within_t (n : Int) : withinI n = true ↔ 0 ≤ n ∧ n ≤ 1099511627776 := by simp [withinI]
theorem within_f (n : Int) : withinI n = false ↔ ¬(0 ≤ n ∧ n ≤ 1099511627776) := by simp only [withinI, decide_eq_false_iff_not]
def goodAt (vs : List Int) (j : Nat) : Prop := 0 ≤ vs.getD j 0 ∧ vs.getD j 0 < 64 ∧ (0 < j → vs.getD (j - 1) 0 < vs.getD j 0)
instance (vs : List Int) (j : Nat) : Decidable (goodAt vs j) := inferInstanceAs (Decidable (_ ∧ _ ∧ _))
/-- Are these voters? -/
def risingI (vs : List Int) : Bool := decide (0 < vs.length ∧ ∀ j, j < vs.length → goodAt vs j)
theorem rising_t (vs : List Int) : risingI vs = true ↔ 0 < vs.length ∧ ∀ j, j < vs.length → goodAt vs j := by simp [risingI]
theorem rising_no {vs : List Int} {j : Nat} (hj : j < vs.length) (h : ¬ goodAt vs j) : risingI vs = false := by
  simp only [risingI, decide_eq_false_iff_not]
  exact fun h' => h (h'.2 j hj)
def bytesI (s : ByteArray) : List Int := s.data.toList.map (fun b => (b.toNat : Int))
theorem bytesI_length (s : ByteArray) : (bytesI s).length = s.size := by unfold bytesI ByteArray.size; rw [List.length_map, Array.length_toList]
theorem byteAt_lt (s : ByteArray) (i : Int) : 0 ≤ byteAt s i ∧ byteAt s i < 256 := by
  unfold byteAt
  split
  · have := UInt8.toNat_lt s[i.toNat]; omega
  · omega
theorem bytesI_get (s : ByteArray) (k : Nat) (h : k < s.size) : (bytesI s)[k]'(by rw [bytesI_length]; exact h) = byteAt s k := by
  simp only [bytesI, List.getElem_map, Array.getElem_toList]
  unfold byteAt
  rw [dif_pos (show ((k : Int)).toNat < s.size from h)]
  rfl
theorem bytesI_take (s : ByteArray) (k : Nat) (h : k < s.size) : (bytesI s).take (k + 1) = (bytesI s).take k ++ [byteAt s k] := by
  rw [List.take_succ_eq_append_getElem (by rw [bytesI_length]; exact h), bytesI_get s k h]
theorem intD_at {W : World} {A : Option Addr} {ad : Addr} {vs : List Int} (h : Cl W A (vs.map (Value.int .i64))) (hA : A = some ad) (i : Nat) (hi : i < vs.length) : W.cell? (ad.add (i * 1)) = some (.int .i64 (vs.getD i 0)) := by
  rw [int_at h hA i hi, List.getD_eq_getElem?_getD, List.getElem?_eq_getElem hi]; rfl
theorem entD_at {W : World} {A : Option Addr} {ad : Addr} {l : List Ent} (h : Cl W A (ents l)) (hA : A = some ad) (i : Nat) (hi : i < l.length) : Cl W (some (ad.add (i * 3))) (l.getD i Ent.zero).enc := by
  rw [List.getD_eq_getElem?_getD, List.getElem?_eq_getElem hi]; exact ents_at h hA i hi
theorem lit3 (a : Int) : Try.prog.builtSlice 3 1 [(0, .int .i64 a)] = some ([a].map (Value.int .i64)).toArray := by kernel_rfl
theorem info3 : (Try.prog.info? 3).map (fun i => (i.zero, i.size, i.bytes)) = some (some (.int .i64 0), 1, 8) := by kernel_rfl

theorem within_con {M : Nat → Prop} {w : World} (hF : Fact w M (fun _ => True)) (n : Int) : Con Try.prog 71 #[.int .i64 n] w M (fun _ : Unit => .bool (withinI n)) (fun _ => True) (fun _ _ => True) := by
  refine con_intro (fn := Try.f71) (N := 9) Try.func71 rfl Try.ntmps71 hF rfl ?_
  refine c_seq ?_
  refine c_region ?_
  refine g_v rfl (r_assign) ?_
  refine g_nil ?_
  refine d_then ?_
  refine c_seq ?_
  refine c_region ?_
  refine g_v rfl (r_move) ?_
  refine g_v rfl (r_geq rfl rfl) ?_
  refine g_v rfl (r_move) ?_
  refine g_if rfl rfl rfl rfl rfl (fun h5 => ?_) (fun h5 => ?_)
  · have h5' := h5
    try simp only [Bool.not_true, Bool.not_false, decide_eq_true_eq, decide_eq_false_iff_not, Bool.not_eq_true', Bool.not_eq_false'] at h5'
    refine g_v rfl (r_move) ?_
    refine g_do rfl rfl rfl rfl rfl h5 ?_
    refine g_v rfl (r_leq rfl rfl) ?_
    refine g_v rfl (r_pick1 rfl h5) ?_
    refine g_v rfl (r_assign) ?_
    refine g_nil ?_
    refine d_then ?_
    refine c_ret ?_
    refine d_retR () Try.results71 ?_ trivial (fun _ _ => trivial) (.inr rfl)
    refine res_tmp ?_
    refine res_nil ?_
    exact congrArg Value.bool (decide_eq_decide.2 (by omega))
  · have h5' := h5
    try simp only [Bool.not_true, Bool.not_false, decide_eq_true_eq, decide_eq_false_iff_not, Bool.not_eq_true', Bool.not_eq_false'] at h5'
    refine g_no rfl rfl rfl rfl rfl h5 ?_
    refine g_v rfl (r_pick0 rfl h5) ?_
    refine g_v rfl (r_assign) ?_
    refine g_nil ?_
    refine d_then ?_
    refine c_ret ?_
    refine d_retR () Try.results71 ?_ trivial (fun _ _ => trivial) (.inr rfl)
    refine res_tmp ?_
    refine res_nil ?_
    exact congrArg Value.bool (show false = withinI n from ((within_f n).2 (by omega)).symm)

theorem rising_con {M : Nat → Prop} {w : World} (A : Option Addr) (c : Nat) (vs : List Int) (hF : Fact w M (fun W => Cl W A (vs.map (Value.int .i64)))) (n : Nat) (hn : vs.length = n) (hl : n ≤ 140737488355328) : Con Try.prog 74 #[.slice A n c] w M (fun _ : Unit => .bool (risingI vs)) (fun _ => True) (fun _ _ => True) := by
  subst hn
  refine con_intro (fn := Try.f74) (N := 35) Try.func74 rfl Try.ntmps74 hF rfl ?_
  refine c_seq ?_
  refine c_region ?_
  refine g_v rfl (r_assign) ?_
  refine g_nil ?_
  refine d_then ?_
  refine c_seq ?_
  refine c_seq ?_
  refine c_region ?_
  refine g_v rfl (r_move) ?_
  refine g_v rfl (r_lenL Try.underlying42 rfl) ?_
  refine g_v rfl (r_move) ?_
  refine g_nil ?_
  refine d_then ?_
  refine c_block ?_
  refine c_loopS (ι := Nat) [0, 5, 6, 7] (fun k => [(7, Value.int .i64 (k : Int))]) (fun k => k ≤ vs.length ∧ ∀ j, j < k → goodAt vs j) (fun k => vs.length - k) 0 ⟨Nat.zero_le _, fun j hj => absurd hj (by omega)⟩ ⟨rfl, rfl, rfl, rfl, trivial⟩ (fun k u hI => ?_)
  refine c_seq ?_
  refine c_region ?_
  refine g_v rfl (r_lss rfl rfl) ?_
  refine g_nil ?_
  refine d_then ?_
  refine c_seq ?_
  refine c_cond rfl (fun h8 => ?_) (fun h8 => ?_)
  · have h8' := h8
    try simp only [Bool.not_true, Bool.not_false, decide_eq_true_eq, decide_eq_false_iff_not, Bool.not_eq_true', Bool.not_eq_false'] at h8'
    have hk1 : k < vs.length := by omega
    obtain ⟨ad, hA1⟩ := hF.now.is_some (by simp; omega)
    refine c_skip ?_
    refine d_then ?_
    refine c_seq ?_
    refine c_block ?_
    refine c_seq ?_
    refine c_region ?_
    refine g_v rfl (r_move) ?_
    refine g_v rfl (r_elem Try.underlying42 Try.sizeOf3 rfl hA1 rfl (by omega) (by omega)) ?_
    refine g_v rfl (r_loadF rfl Try.isAgg3 (fun W h => intD_at h hA1 k hk1)) ?_
    refine g_v rfl (r_assign) ?_
    refine g_v rfl (r_assign) ?_
    refine g_nil ?_
    refine d_then ?_
    refine c_seq ?_
    refine c_region ?_
    refine g_v rfl (r_move) ?_
    refine g_v rfl (r_lss rfl rfl) ?_
    refine g_v rfl (r_move) ?_
    refine g_if rfl rfl rfl rfl rfl (fun h14 => ?_) (fun h14 => ?_)
    · have h14' := h14
      try simp only [Bool.not_true, Bool.not_false, decide_eq_true_eq, decide_eq_false_iff_not, Bool.not_eq_true', Bool.not_eq_false'] at h14'
      refine g_v rfl (r_move) ?_
      refine g_do rfl rfl rfl rfl rfl h14 ?_
      refine g_v rfl (r_geq rfl rfl) ?_
      refine g_v rfl (r_pick0 rfl h14) ?_
      refine g_v rfl (r_move) ?_
      refine g_if rfl rfl rfl rfl rfl (fun h18 => ?_) (fun h18 => ?_)
      · have h18' := h18
        try simp only [Bool.not_true, Bool.not_false, decide_eq_true_eq, decide_eq_false_iff_not, Bool.not_eq_true', Bool.not_eq_false'] at h18'
        refine g_v rfl (r_move) ?_
        refine g_do rfl rfl rfl rfl rfl h18 ?_
        refine g_v rfl (r_gtr rfl rfl) ?_
        refine g_do rfl rfl rfl rfl rfl h18 ?_
        refine g_v rfl (r_move) ?_
        refine g_if rfl rfl rfl rfl rfl (fun h21 => ?_) (fun h21 => ?_)
        · have h21' := h21
          try simp only [Bool.not_true, Bool.not_false, decide_eq_true_eq, decide_eq_false_iff_not, Bool.not_eq_true', Bool.not_eq_false'] at h21'
          refine g_v rfl (r_move) ?_
          refine g_do rfl rfl rfl rfl rfl h21 ?_
          refine g_v rfl (r_move) ?_
          refine g_do rfl rfl rfl rfl rfl h21 ?_
          refine g_v rfl (r_move) ?_
          refine g_do rfl rfl rfl rfl rfl h21 ?_
          refine g_v rfl (r_sub rfl rfl (by first | exact IntWalk.i64_in _ (by omega) | rfl)) ?_
          refine g_do rfl rfl rfl rfl rfl h21 ?_
          refine g_v rfl (r_elem Try.underlying42 Try.sizeOf3 rfl hA1 rfl (by omega) (by omega)) ?_
          refine g_do rfl rfl rfl rfl rfl h21 ?_
          refine g_v rfl (r_loadF rfl Try.isAgg3 (fun W h => by rw [show ((k : Int) - 1).toNat = k - 1 from by omega]; exact intD_at h hA1 (k - 1) (by omega))) ?_
          refine g_do rfl rfl rfl rfl rfl h21 ?_
          refine g_v rfl (r_leq rfl rfl) ?_
          refine g_do rfl rfl rfl rfl rfl h18 ?_
          refine g_v rfl (r_pick1 rfl h21) ?_
          refine g_v rfl (r_pick0 rfl h18) ?_
          refine g_nil ?_
          refine d_then ?_
          refine c_flat [(0, .slice _ _ _), (5, .slice _ _ _), (6, .int .i64 _), (7, .int .i64 _), (30, .bool _)] ⟨rfl, rfl, rfl, rfl, rfl, trivial⟩ (fun u => ?_)
          refine c_cond rfl (fun h30 => ?_) (fun h30 => ?_)
          · have h30' := h30
            try simp only [Bool.not_true, Bool.not_false, decide_eq_true_eq, decide_eq_false_iff_not, Bool.not_eq_true', Bool.not_eq_false'] at h30'
            refine c_seq ?_
            refine c_region ?_
            refine g_v rfl (r_assign) ?_
            refine g_nil ?_
            refine d_then ?_
            refine c_ret ?_
            refine d_ret_block ?_
            refine d_ret_then ?_
            refine d_ret_then ?_
            refine d_ret_block ?_
            refine d_ret_then ?_
            refine d_retR () Try.results74 ?_ trivial (fun _ _ => trivial) (.inr rfl)
            refine res_tmp ?_
            refine res_nil ?_
            exact congrArg Value.bool (show false = risingI vs from (rising_no hk1 (fun hg => by obtain ⟨hg1, hg2, hg3⟩ := hg; omega)).symm)
          · have h30' := h30
            try simp only [Bool.not_true, Bool.not_false, decide_eq_true_eq, decide_eq_false_iff_not, Bool.not_eq_true', Bool.not_eq_false'] at h30'
            refine c_skip ?_
            refine d_normal_block ?_
            refine d_then ?_
            refine c_region ?_
            refine g_v rfl (r_add rfl rfl (by first | exact IntWalk.i64_in _ (by omega) | rfl)) ?_
            refine g_v rfl (r_move) ?_
            refine g_nil ?_
            have hgo : goodAt vs k := ⟨by omega, by omega, fun _ => by omega⟩
            exact d_round (k + 1) ⟨by omega, fun j hj => by rcases Nat.lt_or_ge j k with h0 | h0; exact hI.2 j h0; exact (show j = k from by omega) ▸ hgo⟩ (by omega) ⟨rfl, rfl, rfl, rfl, trivial⟩ (fun _ h => h)
        · have h21' := h21
          try simp only [Bool.not_true, Bool.not_false, decide_eq_true_eq, decide_eq_false_iff_not, Bool.not_eq_true', Bool.not_eq_false'] at h21'
          refine g_no rfl rfl rfl rfl rfl h21 ?_
          refine g_no rfl rfl rfl rfl rfl h21 ?_
          refine g_no rfl rfl rfl rfl rfl h21 ?_
          refine g_no rfl rfl rfl rfl rfl h21 ?_
          refine g_no rfl rfl rfl rfl rfl h21 ?_
          refine g_no rfl rfl rfl rfl rfl h21 ?_
          refine g_do rfl rfl rfl rfl rfl h18 ?_
          refine g_v rfl (r_pick0 rfl h21) ?_
          refine g_v rfl (r_pick0 rfl h18) ?_
          refine g_nil ?_
          refine d_then ?_
          refine c_flat [(0, .slice _ _ _), (5, .slice _ _ _), (6, .int .i64 _), (7, .int .i64 _), (30, .bool _)] ⟨rfl, rfl, rfl, rfl, rfl, trivial⟩ (fun u => ?_)
          refine c_cond0 rfl rfl ?_
          refine c_skip ?_
          refine d_normal_block ?_
          refine d_then ?_
          refine c_region ?_
          refine g_v rfl (r_add rfl rfl (by first | exact IntWalk.i64_in _ (by omega) | rfl)) ?_
          refine g_v rfl (r_move) ?_
          refine g_nil ?_
          have hgo : goodAt vs k := ⟨by omega, by omega, fun _ => by omega⟩
          exact d_round (k + 1) ⟨by omega, fun j hj => by rcases Nat.lt_or_ge j k with h0 | h0; exact hI.2 j h0; exact (show j = k from by omega) ▸ hgo⟩ (by omega) ⟨rfl, rfl, rfl, rfl, trivial⟩ (fun _ h => h)
      · have h18' := h18
        try simp only [Bool.not_true, Bool.not_false, decide_eq_true_eq, decide_eq_false_iff_not, Bool.not_eq_true', Bool.not_eq_false'] at h18'
        refine g_no rfl rfl rfl rfl rfl h18 ?_
        refine g_no rfl rfl rfl rfl rfl h18 ?_
        refine g_nu rfl rfl rfl rfl rfl ?_
        refine g_nu rfl rfl rfl rfl rfl ?_
        refine g_nu rfl rfl rfl rfl rfl ?_
        refine g_nu rfl rfl rfl rfl rfl ?_
        refine g_nu rfl rfl rfl rfl rfl ?_
        refine g_nu rfl rfl rfl rfl rfl ?_
        refine g_nu rfl rfl rfl rfl rfl ?_
        refine g_no rfl rfl rfl rfl rfl h18 ?_
        refine g_v rfl (r_pick1 rfl h18) ?_
        refine g_nil ?_
        refine d_then ?_
        refine c_flat [(0, .slice _ _ _), (5, .slice _ _ _), (6, .int .i64 _), (7, .int .i64 _), (30, .bool _)] ⟨rfl, rfl, rfl, rfl, rfl, trivial⟩ (fun u => ?_)
        refine c_cond1 rfl rfl ?_
        refine c_seq ?_
        refine c_region ?_
        refine g_v rfl (r_assign) ?_
        refine g_nil ?_
        refine d_then ?_
        refine c_ret ?_
        refine d_ret_block ?_
        refine d_ret_then ?_
        refine d_ret_then ?_
        refine d_ret_block ?_
        refine d_ret_then ?_
        refine d_retR () Try.results74 ?_ trivial (fun _ _ => trivial) (.inr rfl)
        refine res_tmp ?_
        refine res_nil ?_
        exact congrArg Value.bool (show false = risingI vs from (rising_no hk1 (fun hg => by obtain ⟨hg1, hg2, hg3⟩ := hg; omega)).symm)
    · have h14' := h14
      try simp only [Bool.not_true, Bool.not_false, decide_eq_true_eq, decide_eq_false_iff_not, Bool.not_eq_true', Bool.not_eq_false'] at h14'
      refine g_no rfl rfl rfl rfl rfl h14 ?_
      refine g_v rfl (r_pick1 rfl h14) ?_
      refine g_v rfl (r_move) ?_
      refine g_no rfl rfl rfl rfl rfl rfl ?_
      refine g_no rfl rfl rfl rfl rfl rfl ?_
      refine g_no rfl rfl rfl rfl rfl rfl ?_
      refine g_nu rfl rfl rfl rfl rfl ?_
      refine g_nu rfl rfl rfl rfl rfl ?_
      refine g_nu rfl rfl rfl rfl rfl ?_
      refine g_nu rfl rfl rfl rfl rfl ?_
      refine g_nu rfl rfl rfl rfl rfl ?_
      refine g_nu rfl rfl rfl rfl rfl ?_
      refine g_nu rfl rfl rfl rfl rfl ?_
      refine g_no rfl rfl rfl rfl rfl rfl ?_
      refine g_v rfl (r_pick1 rfl rfl) ?_
      refine g_nil ?_
      refine d_then ?_
      refine c_flat [(0, .slice _ _ _), (5, .slice _ _ _), (6, .int .i64 _), (7, .int .i64 _), (30, .bool _)] ⟨rfl, rfl, rfl, rfl, rfl, trivial⟩ (fun u => ?_)
      refine c_cond1 rfl rfl ?_
      refine c_seq ?_
      refine c_region ?_
      refine g_v rfl (r_assign) ?_
      refine g_nil ?_
      refine d_then ?_
      refine c_ret ?_
      refine d_ret_block ?_
      refine d_ret_then ?_
      refine d_ret_then ?_
      refine d_ret_block ?_
      refine d_ret_then ?_
      refine d_retR () Try.results74 ?_ trivial (fun _ _ => trivial) (.inr rfl)
      refine res_tmp ?_
      refine res_nil ?_
      exact congrArg Value.bool (show false = risingI vs from (rising_no hk1 (fun hg => by obtain ⟨hg1, hg2, hg3⟩ := hg; omega)).symm)
  · have h8' := h8
    try simp only [Bool.not_true, Bool.not_false, decide_eq_true_eq, decide_eq_false_iff_not, Bool.not_eq_true', Bool.not_eq_false'] at h8'
    have hkl := hI.1
    refine c_exit ?_
    refine d_exit_then ?_
    refine d_exit_then ?_
    refine d_exit_block ?_
    refine d_then ?_
    refine c_seq ?_
    refine c_region ?_
    refine g_v rfl (r_move) ?_
    refine g_v rfl (r_lenL Try.underlying42 rfl) ?_
    refine g_v rfl (r_gtr rfl rfl) ?_
    refine g_v rfl (r_assign) ?_
    refine g_nil ?_
    refine d_then ?_
    refine c_ret ?_
    refine d_retR () Try.results74 ?_ trivial (fun _ _ => trivial) (.inr rfl)
    refine res_tmp ?_
    refine res_nil ?_
    exact congrArg Value.bool (show decide (0 < (vs.length : Int)) = risingI vs from decide_eq_decide.2 ⟨fun h0 => ⟨by omega, fun j hj => hI.2 j (by omega)⟩, fun h0 => by omega⟩)

theorem List_con {M : Nat → Prop} {w : World} (hF : Fact w M (fun _ => True)) (s : ByteArray) (hl : s.size ≤ 17592186044416) : Con Try.prog 23 #[.string s] w M (fun x : Option Addr × Nat => .tuple #[.slice x.1 (if risingI (bytesI s) then s.size else 0) x.2, .bool (risingI (bytesI s))]) (fun x => (if risingI (bytesI s) then s.size else 0) ≤ x.2) (fun x W => Cl W x.1 (if risingI (bytesI s) then (bytesI s).map (Value.int .i64) else [])) := by
  refine con_intro (fn := Try.f23) (N := 23) Try.func23 rfl Try.ntmps23 hF rfl ?_
  refine c_seq ?_
  refine c_region ?_
  refine g_v rfl (r_assign) ?_
  refine g_v rfl (r_assign) ?_
  refine g_nil ?_
  refine d_then ?_
  refine c_seq ?_
  refine c_region ?_
  refine g_v rfl (r_assign) ?_
  refine g_nil ?_
  refine d_then ?_
  refine c_seq ?_
  refine c_seq ?_
  refine c_region ?_
  refine g_v rfl (r_move) ?_
  refine g_v rfl (r_len Try.underlying9 rfl) ?_
  refine g_v rfl (r_move) ?_
  refine g_nil ?_
  refine d_then ?_
  refine c_block ?_
  refine c_loopU (ι := Nat × Option Addr × Nat) [0, 4, 7, 8] (fun ⟨k, A, c⟩ => [(4, .slice A k c), (8, Value.int .i64 (k : Int))]) (fun ⟨k, A, c⟩ => ⟨w, M, [], [(4, ⟨.slice A k c, 3, 1, k, ((bytesI s).take k).map (Value.int .i64)⟩)], fun _ => True⟩) (fun ⟨k, A, c⟩ => k ≤ s.size ∧ k ≤ c) (fun ⟨k, A, c⟩ => s.size - k) (0, none, 0) ⟨Nat.zero_le _, Nat.le_refl _⟩ ⟨rfl, rfl, rfl, rfl, trivial⟩ (fun W h => nilR h 4 3 1) (fun ⟨k, A, c⟩ u hI => ?_)
  obtain ⟨hks, hkc⟩ : k ≤ s.size ∧ k ≤ c := hI
  refine c_seq ?_
  refine c_region ?_
  refine g_v rfl (r_lss rfl rfl) ?_
  refine g_nil ?_
  refine d_then ?_
  refine c_seq ?_
  refine c_cond rfl (fun h9 => ?_) (fun h9 => ?_)
  · have h9' := h9
    try simp only [Bool.not_true, Bool.not_false, decide_eq_true_eq, decide_eq_false_iff_not, Bool.not_eq_true', Bool.not_eq_false'] at h9'
    refine c_skip ?_
    refine d_then ?_
    refine c_seq ?_
    refine c_block ?_
    refine c_seq ?_
    refine c_region ?_
    refine g_v rfl (r_move) ?_
    refine g_v rfl (r_assign) ?_
    refine g_nil ?_
    refine d_then ?_
    have hb8 := byteAt_lt s k
    refine c_region ?_
    refine g_v rfl (r_move) ?_
    refine g_v rfl (r_move) ?_
    refine g_v rfl (r_move) ?_
    refine g_v rfl (r_at Try.underlying9 rfl rfl (by omega) (by omega)) ?_
    refine g_v rfl (r_conv Try.underlying5 Try.underlying3 rfl (by first | exact IntWalk.i64_in _ (by omega) | rfl)) ?_
    refine g_lit rfl rfl Try.underlying42 (lit3 _) (fun g16 => ?_)
    refine g_append (tag := 4) (n := k) (m := 1) rfl Try.underlying42 info3 rfl (by decide) (by decide) rfl rfl rfl rfl (fun W hS => hS.now.2) (fun u hu => by simp at hu; subst hu; rfl) (by omega) (by decide) (fun A' c' hkc' => ?_)
    refine g_v rfl (r_assign) ?_
    refine g_nil ?_
    refine d_normal_block ?_
    refine d_then ?_
    refine c_region ?_
    refine g_v rfl (r_add rfl rfl (by first | exact IntWalk.i64_in _ (by omega) | rfl)) ?_
    refine g_v rfl (r_move) ?_
    refine g_nil ?_
    exact d_round (k + 1, A', c') ⟨show k + 1 ≤ s.size by omega, hkc'⟩ (show s.size - (k + 1) < s.size - k by omega) ⟨rfl, rfl, rfl, rfl, trivial⟩ (fun W h => by show (Sta.mk w M [] [(4, ⟨.slice A' (k + 1) c', 3, 1, k + 1, ((bytesI s).take (k + 1)).map (Value.int .i64)⟩)] fun _ => True).ok W; rw [bytesI_take s k (by omega), List.map_append]; exact h.phi fun _ _ => trivial)
  · have h9' := h9
    try simp only [Bool.not_true, Bool.not_false, decide_eq_true_eq, decide_eq_false_iff_not, Bool.not_eq_true', Bool.not_eq_false'] at h9'
    refine c_exit ?_
    refine d_exit_then ?_
    refine d_exit_then ?_
    refine d_exit_block ?_
    refine d_then ?_
    refine c_seq ?_
    refine c_seq ?_
    have hke : k = s.size := by omega
    subst hke
    refine c_sta _ (fun W h => h.shut (t := 4) rfl) ?_
    rw [List.take_of_length_le (by rw [bytesI_length]; exact Nat.le_refl _)]
    refine c_region ?_
    refine g_v rfl (r_move) ?_
    refine g_callN Try.call74 rfl rfl (fun W hS => rising_con A c (bytesI s) (hS.toFact.imp fun _ h => h.2) s.size (bytesI_length s) (by omega)) (fun _ _ => ?_)
    refine g_v rfl (r_not rfl) ?_
    refine g_nil ?_
    refine d_then ?_
    refine c_cond rfl (fun h21 => ?_) (fun h21 => ?_)
    · have h21' := h21
      try simp only [Bool.not_true, Bool.not_false, decide_eq_true_eq, decide_eq_false_iff_not, Bool.not_eq_true', Bool.not_eq_false'] at h21'
      have hno : risingI (bytesI s) = false := by simpa using h21
      refine c_seq ?_
      refine c_region ?_
      refine g_v rfl (r_assign) ?_
      refine g_v rfl (r_assign) ?_
      refine g_nil ?_
      refine d_then ?_
      refine c_ret ?_
      refine d_ret_then ?_
      refine d_retR (none, 0) Try.results23 ?_ (by rw [hno]; exact Nat.le_refl _) (fun W _ => by rw [hno]; exact Cl.nil _ _) (.inr rfl)
      refine res_tmp ?_
      refine res_tmp ?_
      refine res_nil ?_
      rw [hno]; exact rfl
    · have h21' := h21
      try simp only [Bool.not_true, Bool.not_false, decide_eq_true_eq, decide_eq_false_iff_not, Bool.not_eq_true', Bool.not_eq_false'] at h21'
      have hno : risingI (bytesI s) = true := by simpa using h21
      refine c_skip ?_
      refine d_then ?_
      refine c_seq ?_
      refine c_region ?_
      refine g_v rfl (r_move) ?_
      refine g_v rfl (r_assign) ?_
      refine g_v rfl (r_assign) ?_
      refine g_nil ?_
      refine d_then ?_
      refine c_ret ?_
      refine d_retR (A, c) Try.results23 ?_ (by rw [hno]; exact hkc) (fun W h => by rw [hno]; exact h.2) (.inr rfl)
      refine res_tmp ?_
      refine res_tmp ?_
      refine res_nil ?_
      rw [hno]; exact rfl
end Go.Proofs.Ytildknbbpkbkeaa
