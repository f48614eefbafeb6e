import Derived.Test.YtildknbbpkbkeaaT7
import Derived.Test.YtildknbbpkbkeaaT9
set_option maxRecDepth 16384
set_option maxHeartbeats 4000000
set_option linter.unusedVariables false
set_option linter.unusedSimpArgs false
namespace Go.Proofs.Ytildknbbpkbkeaa
open Go.RowKit
theorem few_con {M : Nat → Prop} {w : World} (A0 : Option Addr) (c0 : Nat) (l : List Ent) (n : Nat) (hn : l.length = n) (hF : Fact w M (fun W => Cl W A0 (ents l))) :
    Con Try.prog 18 #[.slice A0 n c0] w M (fun x : Option Addr × Nat => .slice x.1 (fewI l).length x.2) (fun x => (fewI l).length ≤ x.2) (fun x W => Cl W x.1 (ents (fewI l))) := by
  subst hn
  refine con_intro (fn := Try.f18) (N := 33) Try.func18 rfl Try.ntmps18 hF rfl ?_
  refine c_seq ?_
  refine c_region ?_
  refine g_v rfl (r_assign) ?_
  refine g_nil ?_
  refine d_then ?_
  refine c_seq ?_
  refine c_region ?_
  refine g_v rfl (r_assign) ?_
  refine g_nil ?_
  refine d_then ?_
  refine c_seq ?_
  refine c_seq ?_
  refine c_region ?_
  refine g_v rfl (r_assign) ?_
  refine g_nil ?_
  refine d_then ?_
  refine c_block ?_
  refine c_loopU (ι := Nat × Option Addr × Nat) [0, 3, 4] (fun ⟨k, A, c⟩ => [(3, .slice A k c), (4, Value.int .i64 (k : Int))]) (fun ⟨k, A, c⟩ => ⟨w, M, [], [(3, ⟨.slice A k c, 35, 3, k, ents ((l.take k).map cutE)⟩)], fun W => Cl W A0 (ents l)⟩) (fun ⟨k, A, c⟩ => k ≤ l.length ∧ k ≤ 40 ∧ k ≤ c) (fun ⟨k, A, c⟩ => l.length - k) (0, none, 0) ⟨Nat.zero_le _, by decide, Nat.le_refl _⟩ ⟨rfl, rfl, rfl, trivial⟩ (fun W h => nilR h 3 35 3) (fun ⟨k, A, c⟩ u hI => ?_)
  obtain ⟨hkl, hk4, hkc⟩ : k ≤ l.length ∧ k ≤ 40 ∧ k ≤ c := hI
  refine c_seq ?_
  refine c_seq ?_
  refine c_region ?_
  refine g_v rfl (r_move) ?_
  refine g_v rfl (r_move) ?_
  refine g_v rfl (r_lenL Try.underlying24 rfl) ?_
  refine g_v rfl (r_lss rfl rfl) ?_
  refine g_v rfl (r_move) ?_
  refine g_if rfl rfl rfl rfl rfl (fun h10 => ?_) (fun h10 => ?_)
  · have h10' := h10
    try simp only [Bool.not_true, Bool.not_false, decide_eq_true_eq, decide_eq_false_iff_not, Bool.not_eq_true', Bool.not_eq_false'] at h10'
    refine g_v rfl (r_move) ?_
    refine g_do rfl rfl rfl rfl rfl h10 ?_
    refine g_v rfl (r_lss rfl rfl) ?_
    refine g_v rfl (r_pick1 rfl h10) ?_
    refine g_nil ?_
    refine d_then ?_
    refine c_cond rfl (fun h13 => ?_) (fun h13 => ?_)
    · have h13' := h13
      try simp only [Bool.not_true, Bool.not_false, decide_eq_true_eq, decide_eq_false_iff_not, Bool.not_eq_true', Bool.not_eq_false'] at h13'
      refine c_skip ?_
      refine d_then ?_
      refine c_seq ?_
      refine c_block ?_
      refine c_seq ?_
      have hk1 : k < l.length := by omega
      obtain ⟨ad, hA1⟩ := hF.now.is_some (by rw [ents_length]; omega)
      refine c_region ?_
      refine g_v rfl (r_move) ?_
      refine g_v rfl (r_move) ?_
      refine g_v rfl (r_elem Try.underlying24 Try.sizeOf35 rfl hA1 rfl (by omega) (by omega)) ?_
      refine g_v rfl (r_loadFA rfl Try.isAgg35 Try.sizeOf35 (fun W h => entD_at h hA1 k hk1) rfl) ?_
      refine g_alloc rfl Try.zeroValue35 (fun g5 => ?_)
      refine g_store (tag := 5) rfl rfl rfl rfl Try.sizeOf35 rfl (.inl (Nat.zero_le _)) rfl ?_
      refine g_nil ?_
      refine d_then ?_
      refine c_seq ?_
      refine c_seq ?_
      refine c_region ?_
      refine g_v rfl (r_field (n := 2) Try.underlying35 rfl Try.sizeOf9 rfl rfl) ?_
      refine g_v rfl (r_load (tag := 5) rfl rfl rfl Try.isAgg9) ?_
      refine g_v rfl (r_len Try.underlying9 rfl) ?_
      refine g_v rfl (r_gtr rfl rfl) ?_
      refine g_nil ?_
      refine d_then ?_
      refine c_cond rfl (fun h23 => ?_) (fun h23 => ?_)
      · have h23' := h23
        try simp only [Bool.not_true, Bool.not_false, decide_eq_true_eq, decide_eq_false_iff_not, Bool.not_eq_true', Bool.not_eq_false'] at h23'
        refine c_region ?_
        refine g_v rfl (r_field (n := 2) Try.underlying35 rfl Try.sizeOf9 rfl rfl) ?_
        refine g_v rfl (r_load (tag := 5) rfl rfl rfl Try.isAgg9) ?_
        refine g_v rfl (r_cutSHi Try.underlying9 rfl rfl (by omega) (by omega)) ?_
        refine g_v rfl (r_field (n := 2) Try.underlying35 rfl Try.sizeOf9 rfl rfl) ?_
        refine g_store (tag := 5) rfl rfl rfl rfl Try.sizeOf9 rfl (.inl (Nat.zero_le _)) rfl ?_
        refine g_nil ?_
        refine d_then ?_
        refine c_region ?_
        refine g_v rfl (r_move) ?_
        refine g_v rfl (r_loadA (tag := 5) rfl rfl Try.isAgg35 Try.sizeOf35 rfl rfl) ?_
        refine g_lit rfl rfl Try.underlying24 (litE ⟨_, _, _⟩) (fun g30 => ?_)
        refine g_append (tag := 3) (n := k) (m := 1) rfl Try.underlying24 info35 rfl (by decide) (by decide) rfl rfl rfl (ents_length [_]) (fun W hS => hS.now.2) (ents_one [_]) (by omega) (by decide) (fun A' c' hkc' => ?_)
        refine g_v rfl (r_assign) ?_
        refine g_nil ?_
        refine d_normal_block ?_
        refine d_then ?_
        refine c_region ?_
        refine g_v rfl (r_move) ?_
        refine g_v rfl (r_add rfl rfl (by first | exact IntWalk.i64_in _ (by omega) | rfl)) ?_
        refine g_v rfl (r_assign) ?_
        refine g_nil ?_
        exact d_round (k + 1, A', c') ⟨show k + 1 ≤ l.length by omega, show k + 1 ≤ 40 by omega, hkc'⟩ (show l.length - (k + 1) < l.length - k by omega) ⟨rfl, rfl, rfl, trivial⟩ (fun W h => by show (Sta.mk w M [] [(3, ⟨.slice A' (k + 1) c', 35, 3, k + 1, ents ((l.take (k + 1)).map cutE)⟩)] fun W => Cl W A0 (ents l)).ok W; rw [take_cut l k hk1, ents_append, cutE_yes (by omega)]; exact ((h.dropH (t := 5) rfl).phi fun _ h => h.1))
      · have h23' := h23
        try simp only [Bool.not_true, Bool.not_false, decide_eq_true_eq, decide_eq_false_iff_not, Bool.not_eq_true', Bool.not_eq_false'] at h23'
        refine c_skip ?_
        refine d_then ?_
        refine c_region ?_
        refine g_v rfl (r_move) ?_
        refine g_v rfl (r_loadA (tag := 5) rfl rfl Try.isAgg35 Try.sizeOf35 rfl rfl) ?_
        refine g_lit rfl rfl Try.underlying24 (litE ⟨_, _, _⟩) (fun g30 => ?_)
        refine g_append (tag := 3) (n := k) (m := 1) rfl Try.underlying24 info35 rfl (by decide) (by decide) rfl rfl rfl (ents_length [_]) (fun W hS => hS.now.2) (ents_one [_]) (by omega) (by decide) (fun A' c' hkc' => ?_)
        refine g_v rfl (r_assign) ?_
        refine g_nil ?_
        refine d_normal_block ?_
        refine d_then ?_
        refine c_region ?_
        refine g_v rfl (r_move) ?_
        refine g_v rfl (r_add rfl rfl (by first | exact IntWalk.i64_in _ (by omega) | rfl)) ?_
        refine g_v rfl (r_assign) ?_
        refine g_nil ?_
        exact d_round (k + 1, A', c') ⟨show k + 1 ≤ l.length by omega, show k + 1 ≤ 40 by omega, hkc'⟩ (show l.length - (k + 1) < l.length - k by omega) ⟨rfl, rfl, rfl, trivial⟩ (fun W h => by show (Sta.mk w M [] [(3, ⟨.slice A' (k + 1) c', 35, 3, k + 1, ents ((l.take (k + 1)).map cutE)⟩)] fun W => Cl W A0 (ents l)).ok W; rw [take_cut l k hk1, ents_append, cutE_no (by omega)]; exact ((h.dropH (t := 5) rfl).phi fun _ h => h.1))
    · have h13' := h13
      try simp only [Bool.not_true, Bool.not_false, decide_eq_true_eq, decide_eq_false_iff_not, Bool.not_eq_true', Bool.not_eq_false'] at h13'
      refine c_exit ?_
      refine d_exit_then ?_
      refine d_exit_then ?_
      refine d_exit_block ?_
      refine d_then ?_
      refine c_seq ?_
      have hend : (l.take k).map cutE = fewI l := few_end l k hkl hk4 (by omega)
      have hfl : k = (fewI l).length := few_endlen l k hkl hk4 (by omega)
      refine c_sta _ (fun W h => h.shut (t := 3) rfl) ?_
      rw [hend]
      refine c_region ?_
      refine g_v rfl (r_move) ?_
      refine g_v rfl (r_assign) ?_
      refine g_nil ?_
      refine d_then ?_
      refine c_ret ?_
      refine d_retR (A, c) Try.results18 ?_ (by rw [← hfl]; exact hkc) (fun _ h => h.2) (.inr rfl)
      refine res_tmp ?_
      refine res_nil ?_
      rw [← hfl]; exact rfl
  · have h10' := h10
    try simp only [Bool.not_true, Bool.not_false, decide_eq_true_eq, decide_eq_false_iff_not, Bool.not_eq_true', Bool.not_eq_false'] at h10'
    refine g_no rfl rfl rfl rfl rfl h10 ?_
    refine g_v rfl (r_pick0 rfl h10) ?_
    refine g_nil ?_
    refine d_then ?_
    refine c_cond0 rfl rfl ?_
    refine c_exit ?_
    refine d_exit_then ?_
    refine d_exit_then ?_
    refine d_exit_block ?_
    refine d_then ?_
    refine c_seq ?_
    have hend : (l.take k).map cutE = fewI l := few_end l k hkl hk4 (by omega)
    have hfl : k = (fewI l).length := few_endlen l k hkl hk4 (by omega)
    refine c_sta _ (fun W h => h.shut (t := 3) rfl) ?_
    rw [hend]
    refine c_region ?_
    refine g_v rfl (r_move) ?_
    refine g_v rfl (r_assign) ?_
    refine g_nil ?_
    refine d_then ?_
    refine c_ret ?_
    refine d_retR (A, c) Try.results18 ?_ (by rw [← hfl]; exact hkc) (fun _ h => h.2) (.inr rfl)
    refine res_tmp ?_
    refine res_nil ?_
    rw [← hfl]; exact rfl

theorem small_con {M : Nat → Prop} {w : World} (b t : Int) (A : Option Addr) (c : Nat) (l : List Ent) (n : Nat) (hn : l.length = n) (hF : Fact w M (fun W => Cl W A (ents l))) :
    Con Try.prog 17 #[.agg #[.int .i64 b, .int .i64 t, .slice A n c]] w M (fun x : Option Addr × Nat => .agg #[.int .i64 b, .int .i64 t, .slice x.1 (fewI l).length x.2]) (fun x => (fewI l).length ≤ x.2) (fun x W => Cl W x.1 (ents (fewI l))) := by
  refine con_intro (fn := Try.f17) (N := 14) Try.func17 rfl Try.ntmps17 hF rfl ?_
  refine c_seq ?_
  refine c_region ?_
  refine g_box rfl rfl (fun g1 => ?_)
  refine g_alloc rfl Try.zeroValue26 (fun g2 => ?_)
  refine g_nil ?_
  refine d_then ?_
  refine c_seq ?_
  refine c_region ?_
  refine g_v rfl (r_field (n := 0) Try.underlying26 rfl Try.sizeOf3 rfl rfl) ?_
  refine g_v rfl (r_load (tag := 1) rfl rfl rfl Try.isAgg3) ?_
  refine g_v rfl (r_field (n := 1) Try.underlying26 rfl Try.sizeOf3 rfl rfl) ?_
  refine g_v rfl (r_load (tag := 1) rfl rfl rfl Try.isAgg3) ?_
  refine g_v rfl (r_build _ rfl (build26n _ _)) ?_
  refine g_alloc rfl Try.zeroValue26 (fun g3 => ?_)
  refine g_store (tag := 3) rfl rfl rfl rfl Try.sizeOf26 rfl (.inl (Nat.zero_le _)) rfl ?_
  refine g_nil ?_
  refine d_then ?_
  refine c_seq ?_
  refine c_region ?_
  refine g_v rfl (r_field (n := 2) Try.underlying26 rfl Try.sizeOf24 rfl rfl) ?_
  refine g_v rfl (r_load (tag := 1) rfl rfl rfl Try.isAgg24) ?_
  refine g_call Try.call18 rfl rfl (fun W hS => few_con A c l n hn hS.toFact) (fun ⟨A', c'⟩ hc' => ?_)
  refine g_v rfl (r_field (n := 2) Try.underlying26 rfl Try.sizeOf24 rfl rfl) ?_
  refine g_store (tag := 3) rfl rfl rfl rfl Try.sizeOf24 rfl (.inl (Nat.zero_le _)) rfl ?_
  refine g_nil ?_
  refine d_then ?_
  refine c_seq ?_
  refine c_region ?_
  refine g_v rfl (r_loadA (tag := 3) rfl rfl Try.isAgg26 Try.sizeOf26 rfl rfl) ?_
  refine g_store (tag := 2) rfl rfl rfl rfl Try.sizeOf26 rfl (.inl (Nat.zero_le _)) rfl ?_
  refine g_nil ?_
  refine d_then ?_
  refine c_ret ?_
  refine d_retR (A', c') Try.results17 ?_ hc' (fun _ h => h.2) (.inr rfl)
  refine res_agg (tag := 2) rfl rfl Try.isAgg26 Try.sizeOf26 ?_
  refine res_nil ?_
  exact rfl

theorem sameTerms_con {M : Nat → Prop} {w : World} (b t : Int) (A : Option Addr) (c : Nat) (l : List Ent) (A1 : Option Addr) (c1 : Nat) (es : List Ent) (n n1 : Nat) (hn : l.length = n) (hn1 : es.length = n1) (hl : n1 ≤ 140737488355328) (hF : Fact w M (fun W => Cl W A (ents l) ∧ Cl W A1 (ents es))) :
    Con Try.prog 22 #[.agg #[.int .i64 b, .int .i64 t, .slice A n c], .slice A1 n1 c1] w M (fun _ : Unit => .bool (sameTermsI l es)) (fun _ => True) (fun _ _ => True) := by
  subst hn hn1
  refine con_intro (fn := Try.f22) (N := 30) Try.func22 rfl Try.ntmps22 hF rfl ?_
  refine c_seq ?_
  refine c_region ?_
  refine g_box rfl rfl (fun g2 => ?_)
  refine g_v rfl (r_assign) ?_
  refine g_nil ?_
  refine d_then ?_
  refine c_seq ?_
  refine c_seq ?_
  refine c_region ?_
  refine g_v rfl (r_move) ?_
  refine g_v rfl (r_lenL Try.underlying24 rfl) ?_
  refine g_v rfl (r_field (n := 2) Try.underlying26 rfl Try.sizeOf24 rfl rfl) ?_
  refine g_v rfl (r_load (tag := 2) rfl rfl rfl Try.isAgg24) ?_
  refine g_v rfl (r_lenL Try.underlying24 rfl) ?_
  refine g_v rfl (r_gtr rfl rfl) ?_
  refine g_nil ?_
  refine d_then ?_
  refine c_cond rfl (fun h11 => ?_) (fun h11 => ?_)
  · have h11' := h11
    try simp only [Bool.not_true, Bool.not_false, decide_eq_true_eq, decide_eq_false_iff_not, Bool.not_eq_true', Bool.not_eq_false'] at h11'
    refine c_seq ?_
    refine c_region ?_
    refine g_v rfl (r_assign) ?_
    refine g_nil ?_
    refine d_then ?_
    refine c_ret ?_
    refine d_ret_then ?_
    refine d_retR () Try.results22 ?_ trivial (fun _ _ => trivial) (.inr rfl)
    refine res_tmp ?_
    refine res_nil ?_
    exact congrArg Value.bool (show false = sameTermsI l es from (decide_eq_false (fun h => by omega)).symm)
  · have h11' := h11
    try simp only [Bool.not_true, Bool.not_false, decide_eq_true_eq, decide_eq_false_iff_not, Bool.not_eq_true', Bool.not_eq_false'] at h11'
    refine c_skip ?_
    refine d_then ?_
    refine c_seq ?_
    refine c_seq ?_
    refine c_region ?_
    refine g_v rfl (r_assign) ?_
    refine g_nil ?_
    refine d_then ?_
    refine c_block ?_
    refine c_loopS (ι := Nat) [1, 2, 5] (fun k => [(5, Value.int .i64 (k : Int))]) (fun k => k ≤ es.length ∧ ∀ j, j < k → (es.getD j Ent.zero).term = (l.getD j Ent.zero).term) (fun k => es.length - k) 0 ⟨Nat.zero_le _, fun j hj => absurd hj (by omega)⟩ ⟨rfl, rfl, rfl, trivial⟩ (fun k u hI => ?_)
    refine c_seq ?_
    refine c_seq ?_
    refine c_region ?_
    refine g_v rfl (r_move) ?_
    refine g_v rfl (r_move) ?_
    refine g_v rfl (r_lenL Try.underlying24 rfl) ?_
    refine g_v rfl (r_lss rfl rfl) ?_
    refine g_nil ?_
    refine d_then ?_
    refine c_cond rfl (fun h15 => ?_) (fun h15 => ?_)
    · have h15' := h15
      try simp only [Bool.not_true, Bool.not_false, decide_eq_true_eq, decide_eq_false_iff_not, Bool.not_eq_true', Bool.not_eq_false'] at h15'
      have hk1 : k < es.length := by omega
      obtain ⟨ad, hA⟩ := hF.now.1.is_some (by rw [ents_length]; omega)
      obtain ⟨ad1, hA1⟩ := hF.now.2.is_some (by rw [ents_length]; omega)
      refine c_skip ?_
      refine d_then ?_
      refine c_seq ?_
      refine c_block ?_
      refine c_seq ?_
      refine ga_start (n := 12) _ [] #[false, false, false, false, false, false, false, false, false, false, false, false] (fun _ h => h) mixed rfl rfl ?_
      refine ga_v (i := 0) #[true, false, false, false, false, false, false, false, false, false, false, false] rfl (by kernel_rfl) (fun _ _ _ _ h => h) rfl (r_move) ?_
      refine ga_v (i := 1) #[true, true, false, false, false, false, false, false, false, false, false, false] rfl (by kernel_rfl) (fun _ _ _ _ h => h) rfl (r_move) ?_
      refine ga_v (i := 2) #[true, true, true, false, false, false, false, false, false, false, false, false] rfl (by kernel_rfl) (fun _ _ _ _ h => h) rfl (r_elem Try.underlying24 Try.sizeOf35 rfl hA1 rfl (by omega) (by omega)) ?_
      refine ga_v (i := 3) #[true, true, true, true, false, false, false, false, false, false, false, false] rfl (by kernel_rfl) (fun _ _ _ _ h => h) rfl (r_fieldF Try.underlying35 rfl Try.sizeOf3 rfl) ?_
      refine ga_v (i := 4) #[true, true, true, true, true, false, false, false, false, false, false, false] rfl (by kernel_rfl) (fun _ _ _ _ h => h) rfl (r_loadF rfl Try.isAgg3 (fun W h => (entD_at h.2 hA1 k hk1).cells 0 _ rfl)) ?_
      refine ga_v (i := 5) #[true, true, true, true, true, true, false, false, false, false, false, false] rfl (by kernel_rfl) (fun _ _ _ _ h => h) rfl (r_field (n := 2) Try.underlying26 rfl Try.sizeOf24 rfl rfl) ?_
      refine ga_v (i := 6) #[true, true, true, true, true, true, true, false, false, false, false, false] rfl (by kernel_rfl) (fun _ _ _ _ h => h) rfl (r_load (tag := 2) rfl rfl rfl Try.isAgg24) ?_
      refine ga_v (i := 7) #[true, true, true, true, true, true, true, true, false, false, false, false] rfl (by kernel_rfl) (fun _ _ _ _ h => h) rfl (r_move) ?_
      refine ga_v (i := 8) #[true, true, true, true, true, true, true, true, true, false, false, false] rfl (by kernel_rfl) (fun _ _ _ _ h => h) rfl (r_elem Try.underlying24 Try.sizeOf35 rfl hA rfl (by omega) (by omega)) ?_
      refine ga_v (i := 9) #[true, true, true, true, true, true, true, true, true, true, false, false] rfl (by kernel_rfl) (fun _ _ _ _ h => h) rfl (r_fieldF Try.underlying35 rfl Try.sizeOf3 rfl) ?_
      refine ga_v (i := 10) #[true, true, true, true, true, true, true, true, true, true, true, false] rfl (by kernel_rfl) (fun _ _ _ _ h => h) rfl (r_loadF rfl Try.isAgg3 (fun W h => (entD_at h.1 hA k (by omega)).cells 0 _ rfl)) ?_
      refine ga_v (i := 11) #[true, true, true, true, true, true, true, true, true, true, true, true] rfl (by kernel_rfl) (fun _ _ _ _ h => h) rfl (r_neq rfl rfl) ?_
      refine ga_done (by kernel_rfl) ?_
      refine d_then ?_
      refine c_cond rfl (fun h29 => ?_) (fun h29 => ?_)
      · have h29' := h29
        try simp only [Bool.not_true, Bool.not_false, decide_eq_true_eq, decide_eq_false_iff_not, Bool.not_eq_true', Bool.not_eq_false'] at h29'
        refine c_seq ?_
        refine c_region ?_
        refine g_v rfl (r_assign) ?_
        refine g_nil ?_
        refine d_then ?_
        refine c_ret ?_
        refine d_ret_block ?_
        refine d_ret_then ?_
        refine d_ret_then ?_
        refine d_ret_block ?_
        refine d_ret_then ?_
        refine d_retR () Try.results22 ?_ trivial (fun _ _ => trivial) (.inr rfl)
        refine res_tmp ?_
        refine res_nil ?_
        exact congrArg Value.bool (show false = sameTermsI l es from (decide_eq_false (fun h => by have := h.2 k hk1; omega)).symm)
      · have h29' := h29
        try simp only [Bool.not_true, Bool.not_false, decide_eq_true_eq, decide_eq_false_iff_not, Bool.not_eq_true', Bool.not_eq_false'] at h29'
        refine c_skip ?_
        refine d_normal_block ?_
        refine d_then ?_
        refine c_region ?_
        refine g_v rfl (r_move) ?_
        refine g_v rfl (r_add rfl rfl (by first | exact IntWalk.i64_in _ (by omega) | rfl)) ?_
        refine g_v rfl (r_assign) ?_
        refine g_nil ?_
        exact d_round (k + 1) ⟨by omega, fun j hj => by rcases Nat.lt_or_ge j k with h0 | h0; exact hI.2 j h0; exact (show j = k from by omega) ▸ (by omega)⟩ (by omega) ⟨rfl, rfl, rfl, trivial⟩ (fun _ h => h)
    · have h15' := h15
      try simp only [Bool.not_true, Bool.not_false, decide_eq_true_eq, decide_eq_false_iff_not, Bool.not_eq_true', Bool.not_eq_false'] at h15'
      have hkl := hI.1
      refine c_exit ?_
      refine d_exit_then ?_
      refine d_exit_then ?_
      refine d_exit_block ?_
      refine d_then ?_
      refine c_seq ?_
      refine c_region ?_
      refine g_v rfl (r_assign) ?_
      refine g_nil ?_
      refine d_then ?_
      refine c_ret ?_
      refine d_retR () Try.results22 ?_ trivial (fun _ _ => trivial) (.inr rfl)
      refine res_tmp ?_
      refine res_nil ?_
      exact congrArg Value.bool (show true = sameTermsI l es from (decide_eq_true ⟨by omega, fun j hj => hI.2 j (by omega)⟩).symm)
end Go.Proofs.Ytildknbbpkbkeaa
