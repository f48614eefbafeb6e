import Derived.Test.YtildknbbpkbkeaaTA
set_option maxRecDepth 16384
set_option maxHeartbeats 4000000
set_option linter.unusedVariables false
set_option linter.unusedSimpArgs false
namespace Go.Proofs.Ytildknbbpkbkeaa
open Go.RowKit

theorem bytesI_getD (s : ByteArray) (k : Nat) (h : k < s.size) : (bytesI s).getD k 0 = byteAt s k := by
  rw [List.getD_eq_getElem?_getD, List.getElem?_eq_getElem (by rw [bytesI_length]; exact h), Option.getD_some, bytesI_get s k h]
def sameIntsI (a b : List Int) : Bool := decide (a = b)
theorem list_ext {a b : List Int} (hl : a.length = b.length) (h : ∀ j, j < a.length → a.getD j 0 = b.getD j 0) : a = b := by
  refine List.ext_getElem hl fun j h1 h2 => ?_
  have := h j h1
  rw [List.getD_eq_getElem?_getD, List.getD_eq_getElem?_getD, List.getElem?_eq_getElem h1, List.getElem?_eq_getElem h2] at this
  exact this

theorem rList_con {M : Nat → Prop} {w : World} (hF : Fact w M (fun _ => True)) (s : ByteArray) (hl : s.size ≤ 17592186044416) : Con Try.prog 24 #[.string s] w M (fun x : Option Addr × Nat => .tuple #[.slice x.1 (if risingI (bytesI s) then s.size else 0) x.2, .bool (risingI (bytesI s))]) (fun x => (if risingI (bytesI s) then s.size else 0) ≤ x.2) (fun x W => Cl W x.1 (if risingI (bytesI s) then (bytesI s).map (Value.int .i64) else [])) := by
  refine con_intro (fn := Try.f24) (N := 41) Try.func24 rfl Try.ntmps24 hF rfl ?_
  refine c_seq ?_
  refine c_region ?_
  refine g_v rfl (r_assign) ?_
  refine g_v rfl (r_assign) ?_
  refine g_nil ?_
  refine d_then ?_
  refine c_seq ?_
  refine c_region ?_
  refine g_v rfl (r_assign) ?_
  refine g_nil ?_
  refine d_then ?_
  refine c_seq ?_
  refine c_seq ?_
  refine c_region ?_
  refine g_v rfl (r_assign) ?_
  refine g_nil ?_
  refine d_then ?_
  refine c_block ?_
  refine c_loopU (ι := Nat × Option Addr × Nat) [0, 4, 5] (fun ⟨k, A, c⟩ => [(4, .slice A k c), (5, Value.int .i64 (k : Int))]) (fun ⟨k, A, c⟩ => ⟨w, M, [], [(4, ⟨.slice A k c, 3, 1, k, ((bytesI s).take k).map (Value.int .i64)⟩)], fun _ => True⟩) (fun ⟨k, A, c⟩ => k ≤ s.size ∧ k ≤ c ∧ ∀ j, j < k → goodAt (bytesI s) j) (fun ⟨k, A, c⟩ => s.size - k) (0, none, 0) ⟨Nat.zero_le _, Nat.le_refl _, fun j hj => absurd hj (Nat.not_lt_zero j)⟩ ⟨rfl, rfl, rfl, trivial⟩ (fun W h => nilR h 4 3 1) (fun ⟨k, A, c⟩ u hI => ?_)
  obtain ⟨hks, hkc, hgood⟩ : k ≤ s.size ∧ k ≤ c ∧ ∀ j, j < k → goodAt (bytesI s) j := hI
  refine c_seq ?_
  refine c_seq ?_
  refine c_region ?_
  refine g_v rfl (r_move) ?_
  refine g_v rfl (r_move) ?_
  refine g_v rfl (r_len Try.underlying9 rfl) ?_
  refine g_v rfl (r_lss rfl rfl) ?_
  refine g_nil ?_
  refine d_then ?_
  refine c_cond rfl (fun h9 => ?_) (fun h9 => ?_)
  · have h9' := h9
    try simp only [Bool.not_true, Bool.not_false, decide_eq_true_eq, decide_eq_false_iff_not, Bool.not_eq_true', Bool.not_eq_false'] at h9'
    have hk1 : k < s.size := by omega
    have hb8 := byteAt_lt s k
    refine c_skip ?_
    refine d_then ?_
    refine c_seq ?_
    refine c_block ?_
    refine c_seq ?_
    refine c_seq ?_
    refine ga_start (n := 18) _ [] #[false, false, false, false, false, false, false, false, false, false, false, false, false, false, false, false, false, false] (fun _ h => h) mixed rfl rfl ?_
    refine ga_v (i := 0) #[true, false, false, false, false, false, false, false, false, false, false, false, false, false, false, false, false, false] rfl (by kernel_rfl) (fun _ _ _ _ h => h) rfl (r_move) ?_
    refine ga_v (i := 1) #[true, true, false, false, false, false, false, false, false, false, false, false, false, false, false, false, false, false] rfl (by kernel_rfl) (fun _ _ _ _ h => h) rfl (r_move) ?_
    refine ga_v (i := 2) #[true, true, true, false, false, false, false, false, false, false, false, false, false, false, false, false, false, false] rfl (by kernel_rfl) (fun _ _ _ _ h => h) rfl (r_at Try.underlying9 rfl rfl (by omega) (by omega)) ?_
    refine ga_v (i := 3) #[true, true, true, true, false, false, false, false, false, false, false, false, false, false, false, false, false, false] rfl (by kernel_rfl) (fun _ _ _ _ h => h) rfl (r_gtr rfl rfl) ?_
    refine ga_v (i := 4) #[true, true, true, true, true, false, false, false, false, false, false, false, false, false, false, false, false, false] rfl (by kernel_rfl) (fun _ _ _ _ h => h) rfl (r_move) ?_
    refine ga_if (t := 16) rfl (fun h16 => ?_) (fun h16 => ?_)
    · have h16' := h16
      try simp only [Bool.not_true, Bool.not_false, decide_eq_true_eq, decide_eq_false_iff_not, Bool.not_eq_true', Bool.not_eq_false'] at h16'
      refine ga_no (i := 5) #[true, true, true, true, true, true, false, false, false, false, false, false, false, false, false, false, false, false] rfl (by kernel_rfl) (fun _ _ _ _ h => h) rfl rfl rfl rfl rfl h16 ?_
      refine ga_no (i := 6) #[true, true, true, true, true, true, true, false, false, false, false, false, false, false, false, false, false, false] rfl (by kernel_rfl) (fun _ _ _ _ h => h) rfl rfl rfl rfl rfl h16 ?_
      refine ga_no (i := 7) #[true, true, true, true, true, true, true, true, false, false, false, false, false, false, false, false, false, false] rfl (by kernel_rfl) (fun _ _ _ _ h => h) rfl rfl rfl rfl rfl h16 ?_
      refine ga_nu (i := 8) #[true, true, true, true, true, true, true, true, true, false, false, false, false, false, false, false, false, false] rfl (by kernel_rfl) (fun _ _ _ _ h => h) rfl rfl rfl rfl rfl ?_
      refine ga_nu (i := 9) #[true, true, true, true, true, true, true, true, true, true, false, false, false, false, false, false, false, false] rfl (by kernel_rfl) (fun _ _ _ _ h => h) rfl rfl rfl rfl rfl ?_
      refine ga_nu (i := 10) #[true, true, true, true, true, true, true, true, true, true, true, false, false, false, false, false, false, false] rfl (by kernel_rfl) (fun _ _ _ _ h => h) rfl rfl rfl rfl rfl ?_
      refine ga_nu (i := 11) #[true, true, true, true, true, true, true, true, true, true, true, true, false, false, false, false, false, false] rfl (by kernel_rfl) (fun _ _ _ _ h => h) rfl rfl rfl rfl rfl ?_
      refine ga_nu (i := 12) #[true, true, true, true, true, true, true, true, true, true, true, true, true, false, false, false, false, false] rfl (by kernel_rfl) (fun _ _ _ _ h => h) rfl rfl rfl rfl rfl ?_
      refine ga_nu (i := 13) #[true, true, true, true, true, true, true, true, true, true, true, true, true, true, false, false, false, false] rfl (by kernel_rfl) (fun _ _ _ _ h => h) rfl rfl rfl rfl rfl ?_
      refine ga_nu (i := 14) #[true, true, true, true, true, true, true, true, true, true, true, true, true, true, true, false, false, false] rfl (by kernel_rfl) (fun _ _ _ _ h => h) rfl rfl rfl rfl rfl ?_
      refine ga_nu (i := 15) #[true, true, true, true, true, true, true, true, true, true, true, true, true, true, true, true, false, false] rfl (by kernel_rfl) (fun _ _ _ _ h => h) rfl rfl rfl rfl rfl ?_
      refine ga_no (i := 16) #[true, true, true, true, true, true, true, true, true, true, true, true, true, true, true, true, true, false] rfl (by kernel_rfl) (fun _ _ _ _ h => h) rfl rfl rfl rfl rfl h16 ?_
      refine ga_v (i := 17) #[true, true, true, true, true, true, true, true, true, true, true, true, true, true, true, true, true, true] rfl (by kernel_rfl) (fun _ _ _ _ h => h) rfl (r_pick1 rfl h16) ?_
      refine ga_done (by kernel_rfl) ?_
      refine d_then ?_
      refine c_cond1 rfl rfl ?_
      refine c_seq ?_
      have e1 := bytesI_getD s k hk1
      have hno : risingI (bytesI s) = false := rising_no (j := k) (by rw [bytesI_length]; exact hk1) (fun hg => by obtain ⟨hg1, hg2, hg3⟩ := hg; rw [e1] at hg1 hg2 hg3; omega)
      refine c_region ?_
      refine g_v rfl (r_assign) ?_
      refine g_v rfl (r_assign) ?_
      refine g_nil ?_
      refine d_then ?_
      refine c_ret ?_
      refine d_ret_then ?_
      refine d_ret_block ?_
      refine d_ret_then ?_
      refine d_ret_then ?_
      refine d_ret_block ?_
      refine d_ret_then ?_
      refine d_retR (none, 0) Try.results24 ?_ (by rw [hno]; exact Nat.le_refl _) (fun W _ => by rw [hno]; exact Cl.nil _ _) (.inr rfl)
      refine res_tmp ?_
      refine res_tmp ?_
      refine res_nil ?_
      rw [hno]; exact rfl
    · have h16' := h16
      try simp only [Bool.not_true, Bool.not_false, decide_eq_true_eq, decide_eq_false_iff_not, Bool.not_eq_true', Bool.not_eq_false'] at h16'
      refine ga_do (i := 5) #[true, true, true, true, true, true, false, false, false, false, false, false, false, false, false, false, false, false] rfl (by kernel_rfl) (fun _ _ _ _ h => h) rfl rfl rfl rfl rfl h16 (r_move) ?_
      refine ga_do (i := 6) #[true, true, true, true, true, true, true, false, false, false, false, false, false, false, false, false, false, false] rfl (by kernel_rfl) (fun _ _ _ _ h => h) rfl rfl rfl rfl rfl h16 (r_gtr rfl rfl) ?_
      refine ga_do (i := 7) #[true, true, true, true, true, true, true, true, false, false, false, false, false, false, false, false, false, false] rfl (by kernel_rfl) (fun _ _ _ _ h => h) rfl rfl rfl rfl rfl h16 (r_move) ?_
      refine ga_if (t := 19) rfl (fun h19 => ?_) (fun h19 => ?_)
      · have h19' := h19
        try simp only [Bool.not_true, Bool.not_false, decide_eq_true_eq, decide_eq_false_iff_not, Bool.not_eq_true', Bool.not_eq_false'] at h19'
        refine ga_do (i := 8) #[true, true, true, true, true, true, true, true, true, false, false, false, false, false, false, false, false, false] rfl (by kernel_rfl) (fun _ _ _ _ h => h) rfl rfl rfl rfl rfl h19 (r_move) ?_
        refine ga_do (i := 9) #[true, true, true, true, true, true, true, true, true, true, false, false, false, false, false, false, false, false] rfl (by kernel_rfl) (fun _ _ _ _ h => h) rfl rfl rfl rfl rfl h19 (r_move) ?_
        refine ga_do (i := 10) #[true, true, true, true, true, true, true, true, true, true, true, false, false, false, false, false, false, false] rfl (by kernel_rfl) (fun _ _ _ _ h => h) rfl rfl rfl rfl rfl h19 (r_at Try.underlying9 rfl rfl (by omega) (by omega)) ?_
        refine ga_do (i := 11) #[true, true, true, true, true, true, true, true, true, true, true, true, false, false, false, false, false, false] rfl (by kernel_rfl) (fun _ _ _ _ h => h) rfl rfl rfl rfl rfl h19 (r_move) ?_
        refine ga_do (i := 12) #[true, true, true, true, true, true, true, true, true, true, true, true, true, false, false, false, false, false] rfl (by kernel_rfl) (fun _ _ _ _ h => h) rfl rfl rfl rfl rfl h19 (r_move) ?_
        refine ga_do (i := 13) #[true, true, true, true, true, true, true, true, true, true, true, true, true, true, false, false, false, false] rfl (by kernel_rfl) (fun _ _ _ _ h => h) rfl rfl rfl rfl rfl h19 (r_sub rfl rfl (by first | exact IntWalk.i64_in _ (by omega) | rfl)) ?_
        refine ga_do (i := 14) #[true, true, true, true, true, true, true, true, true, true, true, true, true, true, true, false, false, false] rfl (by kernel_rfl) (fun _ _ _ _ h => h) rfl rfl rfl rfl rfl h19 (r_at Try.underlying9 rfl rfl (by omega) (by omega)) ?_
        refine ga_do (i := 15) #[true, true, true, true, true, true, true, true, true, true, true, true, true, true, true, true, false, false] rfl (by kernel_rfl) (fun _ _ _ _ h => h) rfl rfl rfl rfl rfl h19 (r_leq rfl rfl) ?_
        refine ga_do (i := 16) #[true, true, true, true, true, true, true, true, true, true, true, true, true, true, true, true, true, false] rfl (by kernel_rfl) (fun _ _ _ _ h => h) rfl rfl rfl rfl rfl h16 (r_pick1 rfl h19) ?_
        refine ga_v (i := 17) #[true, true, true, true, true, true, true, true, true, true, true, true, true, true, true, true, true, true] rfl (by kernel_rfl) (fun _ _ _ _ h => h) rfl (r_pick0 rfl h16) ?_
        refine ga_done (by kernel_rfl) ?_
        refine d_then ?_
        refine c_cond rfl (fun h29 => ?_) (fun h29 => ?_)
        · have h29' := h29
          try simp only [Bool.not_true, Bool.not_false, decide_eq_true_eq, decide_eq_false_iff_not, Bool.not_eq_true', Bool.not_eq_false'] at h29'
          refine c_seq ?_
          have e1 := bytesI_getD s k hk1
          have hno : risingI (bytesI s) = false := rising_no (j := k) (by rw [bytesI_length]; exact hk1) (fun hg => by obtain ⟨hg1, hg2, hg3⟩ := hg; rw [e1] at hg1 hg2 hg3; have e2 := bytesI_getD s (k - 1) (by omega); rw [show ((k - 1 : Nat) : Int) = (k : Int) - 1 from by omega] at e2; rw [e2] at hg3; omega)
          refine c_region ?_
          refine g_v rfl (r_assign) ?_
          refine g_v rfl (r_assign) ?_
          refine g_nil ?_
          refine d_then ?_
          refine c_ret ?_
          refine d_ret_then ?_
          refine d_ret_block ?_
          refine d_ret_then ?_
          refine d_ret_then ?_
          refine d_ret_block ?_
          refine d_ret_then ?_
          refine d_retR (none, 0) Try.results24 ?_ (by rw [hno]; exact Nat.le_refl _) (fun W _ => by rw [hno]; exact Cl.nil _ _) (.inr rfl)
          refine res_tmp ?_
          refine res_tmp ?_
          refine res_nil ?_
          rw [hno]; exact rfl
        · have h29' := h29
          try simp only [Bool.not_true, Bool.not_false, decide_eq_true_eq, decide_eq_false_iff_not, Bool.not_eq_true', Bool.not_eq_false'] at h29'
          refine c_skip ?_
          refine d_then ?_
          refine c_region ?_
          refine g_v rfl (r_move) ?_
          refine g_v rfl (r_move) ?_
          refine g_v rfl (r_move) ?_
          refine g_v rfl (r_at Try.underlying9 rfl rfl (by omega) (by omega)) ?_
          refine g_v rfl (r_conv Try.underlying5 Try.underlying3 rfl (by first | exact IntWalk.i64_in _ (by omega) | rfl)) ?_
          refine g_lit rfl rfl Try.underlying42 (lit3 _) (fun g35 => ?_)
          refine g_append (tag := 4) (n := k) (m := 1) rfl Try.underlying42 info3 rfl (by decide) (by decide) rfl rfl rfl rfl (fun W hS => hS.now.2) (fun u hu => by simp at hu; subst hu; rfl) (by omega) (by decide) (fun A' c' hkc' => ?_)
          refine g_v rfl (r_assign) ?_
          refine g_nil ?_
          refine d_normal_block ?_
          refine d_then ?_
          refine c_region ?_
          refine g_v rfl (r_move) ?_
          refine g_v rfl (r_add rfl rfl (by first | exact IntWalk.i64_in _ (by omega) | rfl)) ?_
          refine g_v rfl (r_assign) ?_
          refine g_nil ?_
          have e1 := bytesI_getD s k hk1
          have hgo : goodAt (bytesI s) k := ⟨by omega, by omega, fun hk0 => by have e2 := bytesI_getD s (k - 1) (by omega); rw [show ((k - 1 : Nat) : Int) = (k : Int) - 1 from by omega] at e2; omega⟩
          exact d_round (k + 1, A', c') ⟨show k + 1 ≤ s.size by omega, hkc', fun j hj => by rcases Nat.lt_or_ge j k with h0 | h0; exact hgood j h0; exact (show j = k from by omega) ▸ hgo⟩ (show s.size - (k + 1) < s.size - k by omega) ⟨rfl, rfl, rfl, trivial⟩ (fun W h => by show (Sta.mk w M [] [(4, ⟨.slice A' (k + 1) c', 3, 1, k + 1, ((bytesI s).take (k + 1)).map (Value.int .i64)⟩)] fun _ => True).ok W; rw [bytesI_take s k (by omega), List.map_append]; exact h.phi fun _ _ => trivial)
      · have h19' := h19
        try simp only [Bool.not_true, Bool.not_false, decide_eq_true_eq, decide_eq_false_iff_not, Bool.not_eq_true', Bool.not_eq_false'] at h19'
        refine ga_no (i := 8) #[true, true, true, true, true, true, true, true, true, false, false, false, false, false, false, false, false, false] rfl (by kernel_rfl) (fun _ _ _ _ h => h) rfl rfl rfl rfl rfl h19 ?_
        refine ga_no (i := 9) #[true, true, true, true, true, true, true, true, true, true, false, false, false, false, false, false, false, false] rfl (by kernel_rfl) (fun _ _ _ _ h => h) rfl rfl rfl rfl rfl h19 ?_
        refine ga_no (i := 10) #[true, true, true, true, true, true, true, true, true, true, true, false, false, false, false, false, false, false] rfl (by kernel_rfl) (fun _ _ _ _ h => h) rfl rfl rfl rfl rfl h19 ?_
        refine ga_no (i := 11) #[true, true, true, true, true, true, true, true, true, true, true, true, false, false, false, false, false, false] rfl (by kernel_rfl) (fun _ _ _ _ h => h) rfl rfl rfl rfl rfl h19 ?_
        refine ga_no (i := 12) #[true, true, true, true, true, true, true, true, true, true, true, true, true, false, false, false, false, false] rfl (by kernel_rfl) (fun _ _ _ _ h => h) rfl rfl rfl rfl rfl h19 ?_
        refine ga_no (i := 13) #[true, true, true, true, true, true, true, true, true, true, true, true, true, true, false, false, false, false] rfl (by kernel_rfl) (fun _ _ _ _ h => h) rfl rfl rfl rfl rfl h19 ?_
        refine ga_no (i := 14) #[true, true, true, true, true, true, true, true, true, true, true, true, true, true, true, false, false, false] rfl (by kernel_rfl) (fun _ _ _ _ h => h) rfl rfl rfl rfl rfl h19 ?_
        refine ga_no (i := 15) #[true, true, true, true, true, true, true, true, true, true, true, true, true, true, true, true, false, false] rfl (by kernel_rfl) (fun _ _ _ _ h => h) rfl rfl rfl rfl rfl h19 ?_
        refine ga_do (i := 16) #[true, true, true, true, true, true, true, true, true, true, true, true, true, true, true, true, true, false] rfl (by kernel_rfl) (fun _ _ _ _ h => h) rfl rfl rfl rfl rfl h16 (r_pick0 rfl h19) ?_
        refine ga_v (i := 17) #[true, true, true, true, true, true, true, true, true, true, true, true, true, true, true, true, true, true] rfl (by kernel_rfl) (fun _ _ _ _ h => h) rfl (r_pick0 rfl h16) ?_
        refine ga_done (by kernel_rfl) ?_
        refine d_then ?_
        refine c_cond0 rfl rfl ?_
        refine c_skip ?_
        refine d_then ?_
        refine c_region ?_
        refine g_v rfl (r_move) ?_
        refine g_v rfl (r_move) ?_
        refine g_v rfl (r_move) ?_
        refine g_v rfl (r_at Try.underlying9 rfl rfl (by omega) (by omega)) ?_
        refine g_v rfl (r_conv Try.underlying5 Try.underlying3 rfl (by first | exact IntWalk.i64_in _ (by omega) | rfl)) ?_
        refine g_lit rfl rfl Try.underlying42 (lit3 _) (fun g35 => ?_)
        refine g_append (tag := 4) (n := k) (m := 1) rfl Try.underlying42 info3 rfl (by decide) (by decide) rfl rfl rfl rfl (fun W hS => hS.now.2) (fun u hu => by simp at hu; subst hu; rfl) (by omega) (by decide) (fun A' c' hkc' => ?_)
        refine g_v rfl (r_assign) ?_
        refine g_nil ?_
        refine d_normal_block ?_
        refine d_then ?_
        refine c_region ?_
        refine g_v rfl (r_move) ?_
        refine g_v rfl (r_add rfl rfl (by first | exact IntWalk.i64_in _ (by omega) | rfl)) ?_
        refine g_v rfl (r_assign) ?_
        refine g_nil ?_
        have e1 := bytesI_getD s k hk1
        have hgo : goodAt (bytesI s) k := ⟨by omega, by omega, fun hk0 => by have e2 := bytesI_getD s (k - 1) (by omega); rw [show ((k - 1 : Nat) : Int) = (k : Int) - 1 from by omega] at e2; omega⟩
        exact d_round (k + 1, A', c') ⟨show k + 1 ≤ s.size by omega, hkc', fun j hj => by rcases Nat.lt_or_ge j k with h0 | h0; exact hgood j h0; exact (show j = k from by omega) ▸ hgo⟩ (show s.size - (k + 1) < s.size - k by omega) ⟨rfl, rfl, rfl, trivial⟩ (fun W h => by show (Sta.mk w M [] [(4, ⟨.slice A' (k + 1) c', 3, 1, k + 1, ((bytesI s).take (k + 1)).map (Value.int .i64)⟩)] fun _ => True).ok W; rw [bytesI_take s k (by omega), List.map_append]; exact h.phi fun _ _ => trivial)
  · have h9' := h9
    try simp only [Bool.not_true, Bool.not_false, decide_eq_true_eq, decide_eq_false_iff_not, Bool.not_eq_true', Bool.not_eq_false'] at h9'
    have hke : k = s.size := by omega
    refine c_exit ?_
    refine d_exit_then ?_
    refine d_exit_then ?_
    refine d_exit_block ?_
    refine d_then ?_
    refine c_seq ?_
    subst hke
    have hri : risingI (bytesI s) = decide (0 < s.size) := decide_eq_decide.2 ⟨fun h => by have := h.1; rw [bytesI_length] at this; exact this, fun h => ⟨by rw [bytesI_length]; exact h, fun j hj => hgood j (by rw [bytesI_length] at hj; exact hj)⟩⟩
    have hrb : risingI (bytesI s) = decide (0 < (s.size : Int)) := hri.trans (decide_eq_decide.2 (by omega))
    have hsz : (if risingI (bytesI s) then s.size else 0) = s.size := by rw [hri]; by_cases h : 0 < s.size <;> simp [h]; omega
    have hcl : (if risingI (bytesI s) then (bytesI s).map (Value.int .i64) else []) = (bytesI s).map (Value.int .i64) := by
      rw [hri]
      by_cases h : 0 < s.size
      · simp [h]
      · have : bytesI s = [] := List.eq_nil_of_length_eq_zero (by rw [bytesI_length]; omega)
        simp [this]
    refine c_sta _ (fun W h => h.shut (t := 4) rfl) ?_
    rw [List.take_of_length_le (by rw [bytesI_length]; exact Nat.le_refl _)]
    refine c_region ?_
    refine g_v rfl (r_move) ?_
    refine g_v rfl (r_move) ?_
    refine g_v rfl (r_len Try.underlying9 rfl) ?_
    refine g_v rfl (r_gtr rfl rfl) ?_
    refine g_v rfl (r_assign) ?_
    refine g_v rfl (r_assign) ?_
    refine g_nil ?_
    refine d_then ?_
    refine c_ret ?_
    refine d_retR (A, c) Try.results24 ?_ (by rw [hsz]; exact hkc) (fun W h => by have := h.2; rw [hcl]; exact this) (.inr rfl)
    refine res_tmp ?_
    refine res_tmp ?_
    refine res_nil ?_
    rw [hsz, hrb]; exact rfl

theorem SameInts_con {M : Nat → Prop} {w : World} (A B : Option Addr) (c cb : Nat) (a b : List Int) (n m : Nat) (hn : a.length = n) (hm : b.length = m) (hl : n ≤ 140737488355328) (hF : Fact w M (fun W => Cl W A (a.map (Value.int .i64)) ∧ Cl W B (b.map (Value.int .i64)))) : Con Try.prog 25 #[.slice A n c, .slice B m cb] w M (fun _ : Unit => .bool (sameIntsI a b)) (fun _ => True) (fun _ _ => True) := by
  subst hn hm
  refine con_intro (fn := Try.f25) (N := 26) Try.func25 rfl Try.ntmps25 hF rfl ?_
  refine c_seq ?_
  refine c_region ?_
  refine g_v rfl (r_assign) ?_
  refine g_nil ?_
  refine d_then ?_
  refine c_seq ?_
  refine c_seq ?_
  refine c_region ?_
  refine g_v rfl (r_move) ?_
  refine g_v rfl (r_lenL Try.underlying42 rfl) ?_
  refine g_v rfl (r_move) ?_
  refine g_v rfl (r_lenL Try.underlying42 rfl) ?_
  refine g_v rfl (r_neq rfl rfl) ?_
  refine g_nil ?_
  refine d_then ?_
  refine c_cond rfl (fun h10 => ?_) (fun h10 => ?_)
  · have h10' := h10
    try simp only [Bool.not_true, Bool.not_false, decide_eq_true_eq, decide_eq_false_iff_not, Bool.not_eq_true', Bool.not_eq_false'] at h10'
    refine c_seq ?_
    refine c_region ?_
    refine g_v rfl (r_assign) ?_
    refine g_nil ?_
    refine d_then ?_
    refine c_ret ?_
    refine d_ret_then ?_
    refine d_retR () Try.results25 ?_ trivial (fun _ _ => trivial) (.inr rfl)
    refine res_tmp ?_
    refine res_nil ?_
    exact congrArg Value.bool (show false = sameIntsI a b from (decide_eq_false (fun h => by subst h; omega)).symm)
  · have h10' := h10
    try simp only [Bool.not_true, Bool.not_false, decide_eq_true_eq, decide_eq_false_iff_not, Bool.not_eq_true', Bool.not_eq_false'] at h10'
    refine c_skip ?_
    refine d_then ?_
    refine c_seq ?_
    refine c_seq ?_
    refine c_region ?_
    refine g_v rfl (r_assign) ?_
    refine g_nil ?_
    refine d_then ?_
    refine c_block ?_
    refine c_loopS (ι := Nat) [0, 1, 5] (fun k => [(5, Value.int .i64 (k : Int))]) (fun k => k ≤ a.length ∧ ∀ j, j < k → a.getD j 0 = b.getD j 0) (fun k => a.length - k) 0 ⟨Nat.zero_le _, fun j hj => absurd hj (by omega)⟩ ⟨rfl, rfl, rfl, trivial⟩ (fun k u hI => ?_)
    refine c_seq ?_
    refine c_seq ?_
    refine c_region ?_
    refine g_v rfl (r_move) ?_
    refine g_v rfl (r_move) ?_
    refine g_v rfl (r_lenL Try.underlying42 rfl) ?_
    refine g_v rfl (r_lss rfl rfl) ?_
    refine g_nil ?_
    refine d_then ?_
    refine c_cond rfl (fun h14 => ?_) (fun h14 => ?_)
    · have h14' := h14
      try simp only [Bool.not_true, Bool.not_false, decide_eq_true_eq, decide_eq_false_iff_not, Bool.not_eq_true', Bool.not_eq_false'] at h14'
      have hk1 : k < a.length := by omega
      obtain ⟨ad, hA⟩ := hF.now.1.is_some (by simp; omega)
      obtain ⟨ad1, hA1⟩ := hF.now.2.is_some (by simp; omega)
      refine c_skip ?_
      refine d_then ?_
      refine c_seq ?_
      refine c_block ?_
      refine c_seq ?_
      refine ga_start (n := 9) _ [] #[false, false, false, false, false, false, false, false, false] (fun _ h => h) mixed rfl rfl ?_
      refine ga_v (i := 0) #[true, false, false, false, false, false, false, false, false] rfl (by kernel_rfl) (fun _ _ _ _ h => h) rfl (r_move) ?_
      refine ga_v (i := 1) #[true, true, false, false, false, false, false, false, false] rfl (by kernel_rfl) (fun _ _ _ _ h => h) rfl (r_move) ?_
      refine ga_v (i := 2) #[true, true, true, false, false, false, false, false, false] rfl (by kernel_rfl) (fun _ _ _ _ h => h) rfl (r_elem Try.underlying42 Try.sizeOf3 rfl hA rfl (by omega) (by omega)) ?_
      refine ga_v (i := 3) #[true, true, true, true, false, false, false, false, false] rfl (by kernel_rfl) (fun _ _ _ _ h => h) rfl (r_loadF rfl Try.isAgg3 (fun W h => intD_at h.1 hA k hk1)) ?_
      refine ga_v (i := 4) #[true, true, true, true, true, false, false, false, false] rfl (by kernel_rfl) (fun _ _ _ _ h => h) rfl (r_move) ?_
      refine ga_v (i := 5) #[true, true, true, true, true, true, false, false, false] rfl (by kernel_rfl) (fun _ _ _ _ h => h) rfl (r_move) ?_
      refine ga_v (i := 6) #[true, true, true, true, true, true, true, false, false] rfl (by kernel_rfl) (fun _ _ _ _ h => h) rfl (r_elem Try.underlying42 Try.sizeOf3 rfl hA1 rfl (by omega) (by omega)) ?_
      refine ga_v (i := 7) #[true, true, true, true, true, true, true, true, false] rfl (by kernel_rfl) (fun _ _ _ _ h => h) rfl (r_loadF rfl Try.isAgg3 (fun W h => intD_at h.2 hA1 k (by omega))) ?_
      refine ga_v (i := 8) #[true, true, true, true, true, true, true, true, true] rfl (by kernel_rfl) (fun _ _ _ _ h => h) rfl (r_neq rfl rfl) ?_
      refine ga_done (by kernel_rfl) ?_
      refine d_then ?_
      refine c_cond rfl (fun h25 => ?_) (fun h25 => ?_)
      · have h25' := h25
        try simp only [Bool.not_true, Bool.not_false, decide_eq_true_eq, decide_eq_false_iff_not, Bool.not_eq_true', Bool.not_eq_false'] at h25'
        refine c_seq ?_
        refine c_region ?_
        refine g_v rfl (r_assign) ?_
        refine g_nil ?_
        refine d_then ?_
        refine c_ret ?_
        refine d_ret_block ?_
        refine d_ret_then ?_
        refine d_ret_then ?_
        refine d_ret_block ?_
        refine d_ret_then ?_
        refine d_retR () Try.results25 ?_ trivial (fun _ _ => trivial) (.inr rfl)
        refine res_tmp ?_
        refine res_nil ?_
        exact congrArg Value.bool (show false = sameIntsI a b from (decide_eq_false (fun h => by subst h; omega)).symm)
      · have h25' := h25
        try simp only [Bool.not_true, Bool.not_false, decide_eq_true_eq, decide_eq_false_iff_not, Bool.not_eq_true', Bool.not_eq_false'] at h25'
        refine c_skip ?_
        refine d_normal_block ?_
        refine d_then ?_
        refine c_region ?_
        refine g_v rfl (r_move) ?_
        refine g_v rfl (r_add rfl rfl (by first | exact IntWalk.i64_in _ (by omega) | rfl)) ?_
        refine g_v rfl (r_assign) ?_
        refine g_nil ?_
        exact d_round (k + 1) ⟨by omega, fun j hj => by rcases Nat.lt_or_ge j k with h0 | h0; exact hI.2 j h0; exact (show j = k from by omega) ▸ (by omega)⟩ (by omega) ⟨rfl, rfl, rfl, trivial⟩ (fun _ h => h)
    · have h14' := h14
      try simp only [Bool.not_true, Bool.not_false, decide_eq_true_eq, decide_eq_false_iff_not, Bool.not_eq_true', Bool.not_eq_false'] at h14'
      have hkl := hI.1
      refine c_exit ?_
      refine d_exit_then ?_
      refine d_exit_then ?_
      refine d_exit_block ?_
      refine d_then ?_
      refine c_seq ?_
      refine c_region ?_
      refine g_v rfl (r_assign) ?_
      refine g_nil ?_
      refine d_then ?_
      refine c_ret ?_
      refine d_retR () Try.results25 ?_ trivial (fun _ _ => trivial) (.inr rfl)
      refine res_tmp ?_
      refine res_nil ?_
      exact congrArg Value.bool (show true = sameIntsI a b from (decide_eq_true (list_ext (by omega) fun j hj => hI.2 j (by omega))).symm)
end Go.Proofs.Ytildknbbpkbkeaa
