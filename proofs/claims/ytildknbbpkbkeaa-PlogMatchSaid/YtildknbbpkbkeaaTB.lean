import Derived.Test.YtildknbbpkbkeaaPL
set_option maxRecDepth 16384
set_option maxHeartbeats 4000000
set_option linter.unusedVariables false
set_option linter.unusedSimpArgs false
namespace Go.Proofs.Ytildknbbpkbkeaa
open Go.RowKit

theorem bd_few {b : Int} {l : List Ent} (h1 : 0 ≤ b) (h2 : b ≤ 1073741824) : Bd b (fewI l) := ⟨by omega, by omega, by have := few_len l; omega⟩
theorem bd_put {b t : Int} {l e : List Ent} (h1 : 0 ≤ b) (h2 : b ≤ 1073741824) : Bd b (putI b t (fewI l) b (fewI e)).1 := by
  refine ⟨by omega, by omega, ?_⟩
  rw [putI_eq b t _ _ h1]
  have h3 := few_len l
  have h4 := few_len e
  cases putFrom b t (fewI l) b 0 (fewI e) with
  | none => show (fewI l).length ≤ _; omega
  | some k => simp only [List.length_append, List.length_take, List.length_drop]; omega

theorem Match_con {M : Nat → Prop} {w : World} (ba ta bb tb : Int) (A B E : Option Addr) (c cb ce : Nat) (l m es : List Ent) (n n1 n2 : Nat) (hn : l.length = n) (hn1 : m.length = n1) (hn2 : es.length = n2)
    (hF : Fact w M (fun W => Cl W A (ents l) ∧ Cl W B (ents m) ∧ Cl W E (ents es))) :
    Con Try.prog 4 #[.agg #[.int .i64 ba, .int .i64 ta, .slice A n c], .agg #[.int .i64 bb, .int .i64 tb, .slice B n1 cb], .slice E n2 ce] w M (fun _ : Unit => .bool true) (fun _ => True) (fun _ _ => True) := by
  refine con_intro (fn := Try.f4) (N := 151) Try.func4 rfl Try.ntmps4 hF rfl ?_
  refine c_seq ?_
  refine c_region ?_
  refine g_box rfl rfl (fun g3 => ?_)
  refine g_box rfl rfl (fun g4 => ?_)
  refine g_v rfl (r_assign) ?_
  refine g_nil ?_
  refine d_then ?_
  refine c_seq ?_
  refine c_region ?_
  refine g_callN Try.call15 rfl rfl (fun W hS => awake_con (hS.toFact.imp fun _ _ => trivial)) (fun _ _ => ?_)
  refine g_v rfl (r_assign) ?_
  refine g_nil ?_
  refine d_then ?_
  refine c_seq ?_
  refine c_region ?_
  refine g_v rfl (r_loadA (tag := 3) rfl rfl Try.isAgg26 Try.sizeOf26 rfl rfl) ?_
  refine g_call Try.call17 rfl rfl (fun W hS => small_con ba ta A c l n hn (hS.toFact.imp fun _ h => h.1)) (fun x1 hx1 => ?_)
  refine g_store (tag := 3) rfl rfl rfl rfl Try.sizeOf26 rfl (.inl (Nat.zero_le _)) rfl ?_
  refine g_nil ?_
  refine d_then ?_
  refine c_seq ?_
  refine c_region ?_
  refine g_v rfl (r_loadA (tag := 4) rfl rfl Try.isAgg26 Try.sizeOf26 rfl rfl) ?_
  refine g_call Try.call17 rfl rfl (fun W hS => small_con bb tb B cb m n1 hn1 (hS.toFact.imp fun _ h => h.1.2.1)) (fun x2 hx2 => ?_)
  refine g_store (tag := 4) rfl rfl rfl rfl Try.sizeOf26 rfl (.inl (Nat.zero_le _)) rfl ?_
  refine g_nil ?_
  refine d_then ?_
  refine c_seq ?_
  refine c_region ?_
  refine g_v rfl (r_move) ?_
  refine g_call Try.call18 rfl rfl (fun W hS => few_con E ce es n2 hn2 (hS.toFact.imp fun _ h => h.1.1.2.2)) (fun x3 hx3 => ?_)
  refine g_v rfl (r_assign) ?_
  refine g_nil ?_
  refine d_then ?_
  refine c_flat [(3, .pointer _), (4, .pointer _), (7, .bool _), (8, .slice _ _ _)] ⟨rfl, rfl, rfl, rfl, trivial⟩ (fun u => ?_)
  refine c_sta ⟨w, M, [(4, _, .cells #[.int .i64 _, .int .i64 _, .slice _ _ _] _ _), (3, _, .cells #[.int .i64 _, .int .i64 _, .slice _ _ _] _ _)], _, _⟩ (fun _ h => h) ?_
  refine c_seq ?_
  refine c_sta ⟨_, _, _, _, fun W => Cl W x1.1 (ents (fewI l)) ∧ Cl W x2.1 (ents (fewI m)) ∧ Cl W x3.1 (ents (fewI es))⟩ (fun W h => h.phi fun _ h => ⟨h.1.1.2, h.1.2, h.2⟩) ?_
  refine c_know (p := 0 < (fewI es).length → ∃ ad, x3.1 = some ad) (fun W hS h => hS.now.2.2.is_some (by rw [ents_length]; omega)) (fun hE3 => ?_)
  have f1 := few_len l
  have f2 := few_len m
  have f3 := few_len es
  refine c_region ?_
  refine g_v rfl (r_field (n := 0) Try.underlying26 rfl Try.sizeOf3 rfl rfl) ?_
  refine g_v rfl (r_load (tag := 3) rfl rfl rfl Try.isAgg3) ?_
  refine g_v rfl (r_field (n := 0) Try.underlying26 rfl Try.sizeOf3 rfl rfl) ?_
  refine g_store (tag := 4) rfl rfl rfl rfl Try.sizeOf3 rfl (.inl (Nat.zero_le _)) rfl ?_
  refine g_nil ?_
  refine d_then ?_
  refine c_seq ?_
  refine c_region ?_
  refine g_v rfl (r_field (n := 1) Try.underlying26 rfl Try.sizeOf3 rfl rfl) ?_
  refine g_v rfl (r_load (tag := 3) rfl rfl rfl Try.isAgg3) ?_
  refine g_v rfl (r_field (n := 1) Try.underlying26 rfl Try.sizeOf3 rfl rfl) ?_
  refine g_store (tag := 4) rfl rfl rfl rfl Try.sizeOf3 rfl (.inl (Nat.zero_le _)) rfl ?_
  refine g_nil ?_
  refine d_then ?_
  refine c_seq ?_
  refine c_seq ?_
  refine c_region ?_
  refine g_v rfl (r_loadA (tag := 3) rfl rfl Try.isAgg26 Try.sizeOf26 rfl rfl) ?_
  refine g_callN Try.call19 rfl rfl (fun W hS => Check_con ba ta x1.1 x1.2 (fewI l) (fewI l).length rfl (hS.toFact.imp fun _ h => h.1) (fun j _ => Nat.le_trans (few_data l j) (by decide)) (by omega)) (fun _ _ => ?_)
  refine g_v rfl (r_neq rfl rfl) ?_
  refine g_v rfl (r_move) ?_
  refine g_if rfl rfl rfl rfl rfl (fun h37 => ?_) (fun h37 => ?_)
  · have h37' := h37
    try simp only [Bool.not_true, Bool.not_false, decide_eq_true_eq, decide_eq_false_iff_not, Bool.not_eq_true', Bool.not_eq_false'] at h37'
    refine g_v rfl (r_loadA (tag := 4) rfl rfl Try.isAgg26 Try.sizeOf26 rfl rfl) ?_
    refine g_do rfl rfl rfl rfl rfl h37 ?_
    refine g_callN Try.call19 rfl rfl (fun W hS => Check_con ba ta x2.1 x2.2 (fewI m) (fewI m).length rfl (hS.toFact.imp fun _ h => h.2.1) (fun j _ => Nat.le_trans (few_data m j) (by decide)) (by omega)) (fun _ _ => ?_)
    refine g_do rfl rfl rfl rfl rfl h37 ?_
    refine g_v rfl (r_neq rfl rfl) ?_
    refine g_v rfl (r_pick0 rfl h37) ?_
    refine g_v rfl (r_move) ?_
    refine g_if rfl rfl rfl rfl rfl (fun h42 => ?_) (fun h42 => ?_)
    · have h42' := h42
      try simp only [Bool.not_true, Bool.not_false, decide_eq_true_eq, decide_eq_false_iff_not, Bool.not_eq_true', Bool.not_eq_false'] at h42'
      refine g_v rfl (r_field (n := 0) Try.underlying26 rfl Try.sizeOf3 rfl rfl) ?_
      refine g_do rfl rfl rfl rfl rfl h42 ?_
      refine g_v rfl (r_load (tag := 3) rfl rfl rfl Try.isAgg3) ?_
      refine g_do rfl rfl rfl rfl rfl h42 ?_
      refine g_v rfl (r_gtr rfl rfl) ?_
      refine g_v rfl (r_pick0 rfl h42) ?_
      refine g_nil ?_
      refine d_then ?_
      refine c_flat [(3, .pointer _), (4, .pointer _), (7, .bool _), (8, .slice _ _ _), (46, .bool _)] ⟨rfl, rfl, rfl, rfl, rfl, trivial⟩ (fun u => ?_)
      refine c_sta ⟨w, M, [(4, _, .cells #[.int .i64 _, .int .i64 _, .slice _ _ _] _ _), (3, _, .cells #[.int .i64 _, .int .i64 _, .slice _ _ _] _ _)], _, _⟩ (fun _ h => h) ?_
      refine c_cond rfl (fun h46 => ?_) (fun h46 => ?_)
      · have h46' := h46
        try simp only [Bool.not_true, Bool.not_false, decide_eq_true_eq, decide_eq_false_iff_not, Bool.not_eq_true', Bool.not_eq_false'] at h46'
        refine c_seq ?_
        refine c_region ?_
        refine g_v rfl (r_move) ?_
        refine g_v rfl (r_assign) ?_
        refine g_nil ?_
        refine d_then ?_
        refine c_ret ?_
        refine d_ret_then ?_
        refine d_retR () Try.results4 ?_ trivial (fun _ _ => trivial) (.inr rfl)
        refine res_tmp ?_
        refine res_nil ?_
        exact rfl
      · have h46' := h46
        try simp only [Bool.not_true, Bool.not_false, decide_eq_true_eq, decide_eq_false_iff_not, Bool.not_eq_true', Bool.not_eq_false'] at h46'
        have hok := check_zero (show checkI ba ta (fewI l) = 0 by simpa using h37)
        have hb1 : 0 ≤ ba := ((within_t ba).1 hok.1).1
        have hb2 : ba ≤ 1073741824 := by simpa using h46
        refine c_skip ?_
        refine d_then ?_
        refine c_seq ?_
        refine c_seq ?_
        refine c_region ?_
        refine g_v rfl (r_assign) ?_
        refine g_nil ?_
        refine d_then ?_
        refine c_block ?_
        refine c_loopS (ι := Nat) [3, 4, 7, 8, 9] (fun k => [(9, Value.int .i64 (k : Int))]) (fun k => 1 ≤ k) (fun k => (fewI es).length - k) 1 (Nat.le_refl 1) ⟨rfl, rfl, rfl, rfl, rfl, trivial⟩ (fun k u hI => ?_)
        refine c_seq ?_
        refine c_seq ?_
        refine c_region ?_
        refine g_v rfl (r_move) ?_
        refine g_v rfl (r_move) ?_
        refine g_v rfl (r_lenL Try.underlying24 rfl) ?_
        refine g_v rfl (r_lss rfl rfl) ?_
        refine g_nil ?_
        refine d_then ?_
        refine c_cond rfl (fun h51 => ?_) (fun h51 => ?_)
        · have h51' := h51
          try simp only [Bool.not_true, Bool.not_false, decide_eq_true_eq, decide_eq_false_iff_not, Bool.not_eq_true', Bool.not_eq_false'] at h51'
          have hk1 : k < (fewI es).length := by omega
          refine c_skip ?_
          refine d_then ?_
          refine c_seq ?_
          refine c_block ?_
          refine c_seq ?_
          obtain ⟨ad, hA1⟩ : ∃ ad, x3.1 = some ad := hE3 (by omega)
          refine ga_start (n := 12) _ [] #[false, false, false, false, false, false, false, false, false, false, false, false] (fun _ h => h) mixed rfl rfl ?_
          refine ga_v (i := 0) #[true, false, false, false, false, false, false, false, false, false, false, false] rfl (by kernel_rfl) (fun _ _ _ _ h => h) rfl (r_move) ?_
          refine ga_v (i := 1) #[true, true, false, false, false, false, false, false, false, false, false, false] rfl (by kernel_rfl) (fun _ _ _ _ h => h) rfl (r_move) ?_
          refine ga_v (i := 2) #[true, true, true, false, false, false, false, false, false, false, false, false] rfl (by kernel_rfl) (fun _ _ _ _ h => h) rfl (r_elem Try.underlying24 Try.sizeOf35 rfl hA1 rfl (by omega) (by omega)) ?_
          refine ga_v (i := 3) #[true, true, true, true, false, false, false, false, false, false, false, false] rfl (by kernel_rfl) (fun _ _ _ _ h => h) rfl (r_fieldF Try.underlying35 rfl Try.sizeOf3 rfl) ?_
          refine ga_v (i := 4) #[true, true, true, true, true, false, false, false, false, false, false, false] rfl (by kernel_rfl) (fun _ _ _ _ h => h) rfl (r_loadF rfl Try.isAgg3 (fun W h => (entD_at h.2.2 hA1 k hk1).cells 0 _ rfl)) ?_
          refine ga_v (i := 5) #[true, true, true, true, true, true, false, false, false, false, false, false] rfl (by kernel_rfl) (fun _ _ _ _ h => h) rfl (r_move) ?_
          refine ga_v (i := 6) #[true, true, true, true, true, true, true, false, false, false, false, false] rfl (by kernel_rfl) (fun _ _ _ _ h => h) rfl (r_move) ?_
          refine ga_v (i := 7) #[true, true, true, true, true, true, true, true, false, false, false, false] rfl (by kernel_rfl) (fun _ _ _ _ h => h) rfl (r_sub rfl rfl (by first | exact IntWalk.i64_in _ (by omega) | rfl)) ?_
          refine ga_v (i := 8) #[true, true, true, true, true, true, true, true, true, false, false, false] rfl (by kernel_rfl) (fun _ _ _ _ h => h) rfl (r_elem Try.underlying24 Try.sizeOf35 rfl hA1 rfl (by omega) (by omega)) ?_
          refine ga_v (i := 9) #[true, true, true, true, true, true, true, true, true, true, false, false] rfl (by kernel_rfl) (fun _ _ _ _ h => h) rfl (r_fieldF Try.underlying35 rfl Try.sizeOf3 rfl) ?_
          refine ga_v (i := 10) #[true, true, true, true, true, true, true, true, true, true, true, false] rfl (by kernel_rfl) (fun _ _ _ _ h => h) rfl (r_loadF rfl Try.isAgg3 (fun W h => by rw [show ((k : Int) - 1).toNat = k - 1 from by omega]; exact (entD_at h.2.2 hA1 (k - 1) (by omega)).cells 0 _ rfl)) ?_
          refine ga_v (i := 11) #[true, true, true, true, true, true, true, true, true, true, true, true] rfl (by kernel_rfl) (fun _ _ _ _ h => h) rfl (r_lss rfl rfl) ?_
          refine ga_done (by kernel_rfl) ?_
          refine d_then ?_
          refine c_flat [(3, .pointer _), (4, .pointer _), (7, .bool _), (8, .slice _ _ _), (9, .int .i64 _), (65, .bool _)] ⟨rfl, rfl, rfl, rfl, rfl, rfl, trivial⟩ (fun u => ?_)
          refine c_sta ⟨w, M, [(4, _, .cells #[.int .i64 _, .int .i64 _, .slice _ _ _] _ _), (3, _, .cells #[.int .i64 _, .int .i64 _, .slice _ _ _] _ _)], _, _⟩ (fun _ h => h) ?_
          refine c_cond rfl (fun h65 => ?_) (fun h65 => ?_)
          · have h65' := h65
            try simp only [Bool.not_true, Bool.not_false, decide_eq_true_eq, decide_eq_false_iff_not, Bool.not_eq_true', Bool.not_eq_false'] at h65'
            refine c_seq ?_
            refine c_region ?_
            refine g_v rfl (r_move) ?_
            refine g_v rfl (r_assign) ?_
            refine g_nil ?_
            refine d_then ?_
            refine c_ret ?_
            refine d_ret_block ?_
            refine d_ret_then ?_
            refine d_ret_then ?_
            refine d_ret_block ?_
            refine d_ret_then ?_
            refine d_retR () Try.results4 ?_ trivial (fun _ _ => trivial) (.inr rfl)
            refine res_tmp ?_
            refine res_nil ?_
            exact rfl
          · have h65' := h65
            try simp only [Bool.not_true, Bool.not_false, decide_eq_true_eq, decide_eq_false_iff_not, Bool.not_eq_true', Bool.not_eq_false'] at h65'
            refine c_skip ?_
            refine d_normal_block ?_
            refine d_then ?_
            refine c_region ?_
            refine g_v rfl (r_move) ?_
            refine g_v rfl (r_add rfl rfl (by first | exact IntWalk.i64_in _ (by omega) | rfl)) ?_
            refine g_v rfl (r_assign) ?_
            refine g_nil ?_
            exact d_round (k + 1) (by omega) (by omega) ⟨rfl, rfl, rfl, rfl, rfl, trivial⟩ (fun _ h => h)
        · have h51' := h51
          try simp only [Bool.not_true, Bool.not_false, decide_eq_true_eq, decide_eq_false_iff_not, Bool.not_eq_true', Bool.not_eq_false'] at h51'
          refine c_exit ?_
          refine d_exit_then ?_
          refine d_exit_then ?_
          refine d_exit_block ?_
          refine d_then ?_
          refine c_seq ?_
          refine c_region ?_
          refine g_v rfl (r_loadA (tag := 3) rfl rfl Try.isAgg26 Try.sizeOf26 rfl rfl) ?_
          refine g_v rfl (r_field (n := 0) Try.underlying26 rfl Try.sizeOf3 rfl rfl) ?_
          refine g_v rfl (r_load (tag := 3) rfl rfl rfl Try.isAgg3) ?_
          refine g_v rfl (r_move) ?_
          refine g_call Try.call20 rfl rfl (fun W hS => Put_con ba ta x1.1 x1.2 (fewI l) x3.1 x3.2 (fewI es) ba (hS.toFact.imp fun _ h => ⟨h.1, h.2.2⟩) hx1 hx3 (bd_few hb1 hb2) (by omega)) (fun y1 hy1 => ?_)
          refine g_v rfl (r_move) ?_
          refine g_v rfl (r_extract rfl rfl) ?_
          refine g_v rfl (r_extract rfl rfl) ?_
          refine g_alloc rfl Try.zeroValue26 (fun g10 => ?_)
          refine g_store (tag := 10) rfl rfl rfl rfl Try.sizeOf26 rfl (.inl (Nat.zero_le _)) rfl ?_
          refine g_v rfl (r_assign) ?_
          refine g_nil ?_
          refine d_then ?_
          refine c_flat [(3, .pointer _), (4, .pointer _), (7, .bool _), (8, .slice _ _ _), (10, .pointer _), (11, .int .i64 _)] ⟨rfl, rfl, rfl, rfl, rfl, rfl, trivial⟩ (fun u => ?_)
          refine c_sta ⟨w, M, [(10, _, .cells #[.int .i64 _, .int .i64 _, .slice _ _ _] _ _), (4, _, .cells #[.int .i64 _, .int .i64 _, .slice _ _ _] _ _), (3, _, .cells #[.int .i64 _, .int .i64 _, .slice _ _ _] _ _)], _, _⟩ (fun _ h => h) ?_
          refine c_seq ?_
          refine c_region ?_
          refine g_v rfl (r_loadA (tag := 4) rfl rfl Try.isAgg26 Try.sizeOf26 rfl rfl) ?_
          refine g_v rfl (r_field (n := 0) Try.underlying26 rfl Try.sizeOf3 rfl rfl) ?_
          refine g_v rfl (r_load (tag := 4) rfl rfl rfl Try.isAgg3) ?_
          refine g_v rfl (r_move) ?_
          refine g_call Try.call20 rfl rfl (fun W hS => Put_con ba ta x2.1 x2.2 (fewI m) x3.1 x3.2 (fewI es) ba (hS.toFact.imp fun _ h => ⟨h.1.2.1, h.1.2.2⟩) hx2 hx3 (bd_few hb1 hb2) (by omega)) (fun y2 hy2 => ?_)
          refine g_v rfl (r_move) ?_
          refine g_v rfl (r_extract rfl rfl) ?_
          refine g_v rfl (r_extract rfl rfl) ?_
          refine g_alloc rfl Try.zeroValue26 (fun g12 => ?_)
          refine g_store (tag := 12) rfl rfl rfl rfl Try.sizeOf26 rfl (.inl (Nat.zero_le _)) rfl ?_
          refine g_v rfl (r_assign) ?_
          refine g_nil ?_
          refine d_then ?_
          refine c_seq ?_
          refine c_seq ?_
          refine c_region ?_
          refine g_v rfl (r_assign) ?_
          refine g_nil ?_
          refine d_then ?_
          refine c_block ?_
          refine c_loopS (ι := Nat) [3, 4, 7, 8, 10, 11, 12, 13, 14] (fun k => [(14, Value.int .i64 (k : Int))]) (fun k => k ≤ (fewI es).length) (fun k => (fewI es).length - k) 0 (Nat.zero_le _) ⟨rfl, rfl, rfl, rfl, rfl, rfl, rfl, rfl, rfl, trivial⟩ (fun k u hI => ?_)
          refine c_seq ?_
          refine c_seq ?_
          refine c_region ?_
          refine g_v rfl (r_move) ?_
          refine g_v rfl (r_move) ?_
          refine g_v rfl (r_lenL Try.underlying24 rfl) ?_
          refine g_v rfl (r_lss rfl rfl) ?_
          refine g_nil ?_
          refine d_then ?_
          refine c_flat [(3, .pointer _), (4, .pointer _), (7, .bool _), (8, .slice _ _ _), (10, .pointer _), (11, .int .i64 _), (12, .pointer _), (13, .int .i64 _), (14, .int .i64 _), (86, .bool _)] ⟨rfl, rfl, rfl, rfl, rfl, rfl, rfl, rfl, rfl, rfl, trivial⟩ (fun u => ?_)
          refine c_sta ⟨w, M, [(12, _, .cells #[.int .i64 _, .int .i64 _, .slice _ _ _] _ _), (10, _, .cells #[.int .i64 _, .int .i64 _, .slice _ _ _] _ _), (4, _, .cells #[.int .i64 _, .int .i64 _, .slice _ _ _] _ _), (3, _, .cells #[.int .i64 _, .int .i64 _, .slice _ _ _] _ _)], _, _⟩ (fun _ h => h) ?_
          refine c_cond rfl (fun h86 => ?_) (fun h86 => ?_)
          · have h86' := h86
            try simp only [Bool.not_true, Bool.not_false, decide_eq_true_eq, decide_eq_false_iff_not, Bool.not_eq_true', Bool.not_eq_false'] at h86'
            have hk1 : k < (fewI es).length := by omega
            obtain ⟨hg1, hg1'⟩ := put_get (t := ta) (l := fewI l) (e := fewI es) hb1 k hk1
            obtain ⟨hg2, hg2'⟩ := put_get (t := ta) (l := fewI m) (e := fewI es) hb1 k hk1
            refine c_skip ?_
            refine d_then ?_
            refine c_seq ?_
            refine c_block ?_
            refine c_seq ?_
            refine c_region ?_
            refine g_v rfl (r_loadA (tag := 10) rfl rfl Try.isAgg26 Try.sizeOf26 rfl rfl) ?_
            refine g_v rfl (r_field (n := 0) Try.underlying26 rfl Try.sizeOf3 rfl rfl) ?_
            refine g_v rfl (r_load (tag := 3) rfl rfl rfl Try.isAgg3) ?_
            refine g_v rfl (r_add rfl rfl (by first | exact IntWalk.i64_in _ (by omega) | rfl)) ?_
            refine g_v rfl (r_move) ?_
            refine g_v rfl (r_add rfl rfl (by first | exact IntWalk.i64_in _ (by omega) | rfl)) ?_
            refine g_callN Try.call21 rfl rfl (fun W hS => Get_con ba ta y1.1 y1.2 (putI ba ta (fewI l) ba (fewI es)).1 (hS.toFact.imp fun _ h => h.1.2) (bd_put hb1 hb2) (ba + 1 + k)) (fun _ _ => ?_)
            refine g_v rfl (r_move) ?_
            refine g_v rfl (r_extract rfl rfl) ?_
            refine g_v rfl (r_extract rfl rfl) ?_
            refine g_alloc rfl Try.zeroValue35 (fun g15 => ?_)
            refine g_store (tag := 15) rfl rfl rfl rfl Try.sizeOf35 rfl (.inl (Nat.zero_le _)) rfl ?_
            refine g_v rfl (r_assign) ?_
            refine g_nil ?_
            refine d_then ?_
            refine c_flat [(3, .pointer _), (4, .pointer _), (7, .bool _), (8, .slice _ _ _), (10, .pointer _), (11, .int .i64 _), (12, .pointer _), (13, .int .i64 _), (14, .int .i64 _), (15, .pointer _), (16, .bool _)] ⟨rfl, rfl, rfl, rfl, rfl, rfl, rfl, rfl, rfl, rfl, rfl, trivial⟩ (fun u => ?_)
            refine c_sta ⟨w, M, [(15, _, .cells #[.int .i64 _, .int .i64 _, .string _] _ _), (12, _, .cells #[.int .i64 _, .int .i64 _, .slice _ _ _] _ _), (10, _, .cells #[.int .i64 _, .int .i64 _, .slice _ _ _] _ _), (4, _, .cells #[.int .i64 _, .int .i64 _, .slice _ _ _] _ _), (3, _, .cells #[.int .i64 _, .int .i64 _, .slice _ _ _] _ _)], _, _⟩ (fun _ h => h) ?_
            refine c_seq ?_
            refine c_region ?_
            refine g_v rfl (r_loadA (tag := 12) rfl rfl Try.isAgg26 Try.sizeOf26 rfl rfl) ?_
            refine g_v rfl (r_field (n := 0) Try.underlying26 rfl Try.sizeOf3 rfl rfl) ?_
            refine g_v rfl (r_load (tag := 3) rfl rfl rfl Try.isAgg3) ?_
            refine g_v rfl (r_add rfl rfl (by first | exact IntWalk.i64_in _ (by omega) | rfl)) ?_
            refine g_v rfl (r_move) ?_
            refine g_v rfl (r_add rfl rfl (by first | exact IntWalk.i64_in _ (by omega) | rfl)) ?_
            refine g_callN Try.call21 rfl rfl (fun W hS => Get_con ba ta y2.1 y2.2 (putI ba ta (fewI m) ba (fewI es)).1 (hS.toFact.imp fun _ h => h.2) (bd_put hb1 hb2) (ba + 1 + k)) (fun _ _ => ?_)
            refine g_v rfl (r_move) ?_
            refine g_v rfl (r_extract rfl rfl) ?_
            refine g_v rfl (r_extract rfl rfl) ?_
            refine g_alloc rfl Try.zeroValue35 (fun g17 => ?_)
            refine g_store (tag := 17) rfl rfl rfl rfl Try.sizeOf35 rfl (.inl (Nat.zero_le _)) rfl ?_
            refine g_v rfl (r_assign) ?_
            refine g_nil ?_
            refine d_then ?_
            refine c_flat [(3, .pointer _), (4, .pointer _), (7, .bool _), (8, .slice _ _ _), (10, .pointer _), (11, .int .i64 _), (12, .pointer _), (13, .int .i64 _), (14, .int .i64 _), (15, .pointer _), (16, .bool _), (17, .pointer _), (18, .bool _)] ⟨rfl, rfl, rfl, rfl, rfl, rfl, rfl, rfl, rfl, rfl, rfl, rfl, rfl, trivial⟩ (fun u => ?_)
            refine c_sta ⟨w, M, [(17, _, .cells #[.int .i64 _, .int .i64 _, .string _] _ _), (15, _, .cells #[.int .i64 _, .int .i64 _, .string _] _ _), (12, _, .cells #[.int .i64 _, .int .i64 _, .slice _ _ _] _ _), (10, _, .cells #[.int .i64 _, .int .i64 _, .slice _ _ _] _ _), (4, _, .cells #[.int .i64 _, .int .i64 _, .slice _ _ _] _ _), (3, _, .cells #[.int .i64 _, .int .i64 _, .slice _ _ _] _ _)], _, _⟩ (fun _ h => h) ?_
            refine c_seq ?_
            obtain ⟨ad, hA1⟩ : ∃ ad, x3.1 = some ad := hE3 (by omega)
            refine ga_start (n := 23) _ [] #[false, false, false, false, false, false, false, false, false, false, false, false, false, false, false, false, false, false, false, false, false, false, false] (fun _ h => h) mixed rfl rfl ?_
            refine ga_v (i := 0) #[true, false, false, false, false, false, false, false, false, false, false, false, false, false, false, false, false, false, false, false, false, false, false] rfl (by kernel_rfl) (fun _ _ _ _ h => h) rfl (r_move) ?_
            refine ga_v (i := 1) #[true, true, false, false, false, false, false, false, false, false, false, false, false, false, false, false, false, false, false, false, false, false, false] rfl (by kernel_rfl) (fun _ _ _ _ h => h) rfl (r_not rfl) ?_
            refine ga_v (i := 2) #[true, true, true, false, false, false, false, false, false, false, false, false, false, false, false, false, false, false, false, false, false, false, false] rfl (by kernel_rfl) (fun _ _ _ _ h => h) rfl (r_move) ?_
            refine ga_do (i := 3) #[true, true, true, true, false, false, false, false, false, false, false, false, false, false, false, false, false, false, false, false, false, false, false] rfl (by kernel_rfl) (fun _ _ _ _ h => h) rfl rfl rfl rfl rfl (by rw [hg1] <;> rfl) (r_move) ?_
            refine ga_do (i := 4) #[true, true, true, true, true, false, false, false, false, false, false, false, false, false, false, false, false, false, false, false, false, false, false] rfl (by kernel_rfl) (fun _ _ _ _ h => h) rfl rfl rfl rfl rfl (by rw [hg1] <;> rfl) (r_not rfl) ?_
            refine ga_v (i := 5) #[true, true, true, true, true, true, false, false, false, false, false, false, false, false, false, false, false, false, false, false, false, false, false] rfl (by kernel_rfl) (fun _ _ _ _ h => h) rfl (r_pick0 rfl (by rw [hg1] <;> rfl)) ?_
            refine ga_v (i := 6) #[true, true, true, true, true, true, true, false, false, false, false, false, false, false, false, false, false, false, false, false, false, false, false] rfl (by kernel_rfl) (fun _ _ _ _ h => h) rfl (r_move) ?_
            refine ga_do (i := 7) #[true, true, true, true, true, true, true, true, false, false, false, false, false, false, false, false, false, false, false, false, false, false, false] rfl (by kernel_rfl) (fun _ _ _ _ h => h) rfl rfl rfl rfl rfl (by rw [hg2] <;> rfl) (r_field (n := 0) Try.underlying35 rfl Try.sizeOf3 rfl rfl) ?_
            refine ga_do (i := 8) #[true, true, true, true, true, true, true, true, true, false, false, false, false, false, false, false, false, false, false, false, false, false, false] rfl (by kernel_rfl) (fun _ _ _ _ h => h) rfl rfl rfl rfl rfl (by rw [hg2] <;> rfl) (r_load (tag := 15) rfl rfl rfl Try.isAgg3) ?_
            refine ga_do (i := 9) #[true, true, true, true, true, true, true, true, true, true, false, false, false, false, false, false, false, false, false, false, false, false, false] rfl (by kernel_rfl) (fun _ _ _ _ h => h) rfl rfl rfl rfl rfl (by rw [hg2] <;> rfl) (r_field (n := 0) Try.underlying35 rfl Try.sizeOf3 rfl rfl) ?_
            refine ga_do (i := 10) #[true, true, true, true, true, true, true, true, true, true, true, false, false, false, false, false, false, false, false, false, false, false, false] rfl (by kernel_rfl) (fun _ _ _ _ h => h) rfl rfl rfl rfl rfl (by rw [hg2] <;> rfl) (r_load (tag := 17) rfl rfl rfl Try.isAgg3) ?_
            refine ga_do (i := 11) #[true, true, true, true, true, true, true, true, true, true, true, true, false, false, false, false, false, false, false, false, false, false, false] rfl (by kernel_rfl) (fun _ _ _ _ h => h) rfl rfl rfl rfl rfl (by rw [hg2] <;> rfl) (r_neq rfl rfl) ?_
            refine ga_v (i := 12) #[true, true, true, true, true, true, true, true, true, true, true, true, true, false, false, false, false, false, false, false, false, false, false] rfl (by kernel_rfl) (fun _ _ _ _ h => h) rfl (r_pick0 rfl (by rw [hg2] <;> rfl)) ?_
            refine ga_v (i := 13) #[true, true, true, true, true, true, true, true, true, true, true, true, true, true, false, false, false, false, false, false, false, false, false] rfl (by kernel_rfl) (fun _ _ _ _ h => h) rfl (r_move) ?_
            refine ga_do (i := 14) #[true, true, true, true, true, true, true, true, true, true, true, true, true, true, true, false, false, false, false, false, false, false, false] rfl (by kernel_rfl) (fun _ _ _ _ h => h) rfl rfl rfl rfl rfl (decide_eq_false (fun h => h (hg1'.trans hg2'.symm))) (r_field (n := 0) Try.underlying35 rfl Try.sizeOf3 rfl rfl) ?_
            refine ga_do (i := 15) #[true, true, true, true, true, true, true, true, true, true, true, true, true, true, true, true, false, false, false, false, false, false, false] rfl (by kernel_rfl) (fun _ _ _ _ h => h) rfl rfl rfl rfl rfl (decide_eq_false (fun h => h (hg1'.trans hg2'.symm))) (r_load (tag := 15) rfl rfl rfl Try.isAgg3) ?_
            refine ga_do (i := 16) #[true, true, true, true, true, true, true, true, true, true, true, true, true, true, true, true, true, false, false, false, false, false, false] rfl (by kernel_rfl) (fun _ _ _ _ h => h) rfl rfl rfl rfl rfl (decide_eq_false (fun h => h (hg1'.trans hg2'.symm))) (r_move) ?_
            refine ga_do (i := 17) #[true, true, true, true, true, true, true, true, true, true, true, true, true, true, true, true, true, true, false, false, false, false, false] rfl (by kernel_rfl) (fun _ _ _ _ h => h) rfl rfl rfl rfl rfl (decide_eq_false (fun h => h (hg1'.trans hg2'.symm))) (r_move) ?_
            refine ga_do (i := 18) #[true, true, true, true, true, true, true, true, true, true, true, true, true, true, true, true, true, true, true, false, false, false, false] rfl (by kernel_rfl) (fun _ _ _ _ h => h) rfl rfl rfl rfl rfl (decide_eq_false (fun h => h (hg1'.trans hg2'.symm))) (r_elem Try.underlying24 Try.sizeOf35 rfl hA1 rfl (by omega) (by omega)) ?_
            refine ga_do (i := 19) #[true, true, true, true, true, true, true, true, true, true, true, true, true, true, true, true, true, true, true, true, false, false, false] rfl (by kernel_rfl) (fun _ _ _ _ h => h) rfl rfl rfl rfl rfl (decide_eq_false (fun h => h (hg1'.trans hg2'.symm))) (r_fieldF Try.underlying35 rfl Try.sizeOf3 rfl) ?_
            refine ga_do (i := 20) #[true, true, true, true, true, true, true, true, true, true, true, true, true, true, true, true, true, true, true, true, true, false, false] rfl (by kernel_rfl) (fun _ _ _ _ h => h) rfl rfl rfl rfl rfl (decide_eq_false (fun h => h (hg1'.trans hg2'.symm))) (r_loadF rfl Try.isAgg3 (fun W h => (entD_at h.1.1.2.2 hA1 k hk1).cells 0 _ rfl)) ?_
            refine ga_do (i := 21) #[true, true, true, true, true, true, true, true, true, true, true, true, true, true, true, true, true, true, true, true, true, true, false] rfl (by kernel_rfl) (fun _ _ _ _ h => h) rfl rfl rfl rfl rfl (decide_eq_false (fun h => h (hg1'.trans hg2'.symm))) (r_neq rfl rfl) ?_
            refine ga_v (i := 22) #[true, true, true, true, true, true, true, true, true, true, true, true, true, true, true, true, true, true, true, true, true, true, true] rfl (by kernel_rfl) (fun _ _ _ _ h => h) rfl (r_pick0 rfl (decide_eq_false (fun h => h (hg1'.trans hg2'.symm)))) ?_
            refine ga_done (by kernel_rfl) ?_
            refine d_then ?_
            refine c_flat [(3, .pointer _), (4, .pointer _), (7, .bool _), (8, .slice _ _ _), (10, .pointer _), (11, .int .i64 _), (12, .pointer _), (13, .int .i64 _), (14, .int .i64 _), (131, .bool _)] ⟨rfl, rfl, rfl, rfl, rfl, rfl, rfl, rfl, rfl, rfl, trivial⟩ (fun u => ?_)
            refine c_sta ⟨w, M, [(17, _, .cells #[.int .i64 _, .int .i64 _, .string _] _ _), (15, _, .cells #[.int .i64 _, .int .i64 _, .string _] _ _), (12, _, .cells #[.int .i64 _, .int .i64 _, .slice _ _ _] _ _), (10, _, .cells #[.int .i64 _, .int .i64 _, .slice _ _ _] _ _), (4, _, .cells #[.int .i64 _, .int .i64 _, .slice _ _ _] _ _), (3, _, .cells #[.int .i64 _, .int .i64 _, .slice _ _ _] _ _)], _, _⟩ (fun _ h => h) ?_
            refine c_cond0 rfl (decide_eq_false (fun h => h hg1')) ?_
            refine c_skip ?_
            refine d_normal_block ?_
            refine d_then ?_
            refine c_region ?_
            refine g_v rfl (r_move) ?_
            refine g_v rfl (r_add rfl rfl (by first | exact IntWalk.i64_in _ (by omega) | rfl)) ?_
            refine g_v rfl (r_assign) ?_
            refine g_nil ?_
            exact d_round (k + 1) hk1 (by omega) ⟨rfl, rfl, rfl, rfl, rfl, rfl, rfl, rfl, rfl, trivial⟩ (fun W h => (h.dropH (t := 17) rfl).dropH (t := 15) rfl)
          · have h86' := h86
            try simp only [Bool.not_true, Bool.not_false, decide_eq_true_eq, decide_eq_false_iff_not, Bool.not_eq_true', Bool.not_eq_false'] at h86'
            refine c_exit ?_
            refine d_exit_then ?_
            refine d_exit_then ?_
            refine d_exit_block ?_
            refine d_then ?_
            refine c_seq ?_
            refine c_region ?_
            refine g_v rfl (r_loadA (tag := 3) rfl rfl Try.isAgg26 Try.sizeOf26 rfl rfl) ?_
            refine g_v rfl (r_move) ?_
            refine g_callN Try.call22 rfl rfl (fun W hS => sameTerms_con ba ta x1.1 x1.2 (fewI l) x3.1 x3.2 (fewI es) (fewI l).length (fewI es).length rfl rfl (by omega) (hS.toFact.imp fun _ h => ⟨h.1.1.1, h.1.1.2.2⟩)) (fun _ _ => ?_)
            refine g_v rfl (r_assign) ?_
            refine g_nil ?_
            refine d_then ?_
            refine c_seq ?_
            refine c_region ?_
            refine g_v rfl (r_loadA (tag := 4) rfl rfl Try.isAgg26 Try.sizeOf26 rfl rfl) ?_
            refine g_v rfl (r_move) ?_
            refine g_callN Try.call22 rfl rfl (fun W hS => sameTerms_con ba ta x2.1 x2.2 (fewI m) x3.1 x3.2 (fewI es) (fewI m).length (fewI es).length rfl rfl (by omega) (hS.toFact.imp fun _ h => ⟨h.1.1.2.1, h.1.1.2.2⟩)) (fun _ _ => ?_)
            refine g_v rfl (r_assign) ?_
            refine g_nil ?_
            refine d_then ?_
            refine c_seq ?_
            refine c_region ?_
            refine g_v rfl (r_move) ?_
            refine g_v rfl (r_move) ?_
            refine g_do rfl rfl rfl rfl rfl rfl ?_
            refine g_v rfl (r_move) ?_
            refine g_do rfl rfl rfl rfl rfl rfl ?_
            refine g_v rfl (r_eql rfl rfl) ?_
            refine g_do rfl rfl rfl rfl rfl rfl ?_
            refine g_v rfl (r_move) ?_
            refine g_do rfl rfl rfl rfl rfl rfl ?_
            refine g_v rfl (r_eqlB Try.underlying4 rfl rfl) ?_
            refine g_v rfl (r_pick1 rfl rfl) ?_
            refine g_v rfl (r_move) ?_
            refine g_do rfl rfl rfl rfl rfl (put_zero (t := ta) (l := fewI l) (e := fewI es) hb1) ?_
            refine g_v rfl (r_move) ?_
            refine g_do rfl rfl rfl rfl rfl (put_zero (t := ta) (l := fewI l) (e := fewI es) hb1) ?_
            refine g_v rfl (r_eql rfl rfl) ?_
            refine g_do rfl rfl rfl rfl rfl (put_zero (t := ta) (l := fewI l) (e := fewI es) hb1) ?_
            refine g_v rfl (r_move) ?_
            refine g_do rfl rfl rfl rfl rfl (put_zero (t := ta) (l := fewI l) (e := fewI es) hb1) ?_
            refine g_v rfl (r_eqlB Try.underlying4 rfl rfl) ?_
            refine g_v rfl (r_pick1 rfl (put_zero (t := ta) (l := fewI l) (e := fewI es) hb1)) ?_
            refine g_v rfl (r_assign) ?_
            refine g_nil ?_
            refine d_then ?_
            refine c_flat [(6, .bool _)] ⟨rfl, trivial⟩ (fun u => ?_)
            refine c_sta ⟨w, M, [(12, _, .cells #[.int .i64 _, .int .i64 _, .slice _ _ _] _ _), (10, _, .cells #[.int .i64 _, .int .i64 _, .slice _ _ _] _ _), (4, _, .cells #[.int .i64 _, .int .i64 _, .slice _ _ _] _ _), (3, _, .cells #[.int .i64 _, .int .i64 _, .slice _ _ _] _ _)], _, _⟩ (fun _ h => h) ?_
            refine c_ret ?_
            refine d_retR () Try.results4 ?_ trivial (fun _ _ => trivial) (.inr rfl)
            refine res_tmp ?_
            refine res_nil ?_
            exact congrArg Value.bool (put_zero (t := ta) (l := fewI m) (e := fewI es) hb1)
    · have h42' := h42
      try simp only [Bool.not_true, Bool.not_false, decide_eq_true_eq, decide_eq_false_iff_not, Bool.not_eq_true', Bool.not_eq_false'] at h42'
      refine g_no rfl rfl rfl rfl rfl h42 ?_
      refine g_no rfl rfl rfl rfl rfl h42 ?_
      refine g_v rfl (r_pick1 rfl h42) ?_
      refine g_nil ?_
      refine d_then ?_
      refine c_flat [(3, .pointer _), (4, .pointer _), (7, .bool _), (8, .slice _ _ _), (46, .bool _)] ⟨rfl, rfl, rfl, rfl, rfl, trivial⟩ (fun u => ?_)
      refine c_sta ⟨w, M, [(4, _, .cells #[.int .i64 _, .int .i64 _, .slice _ _ _] _ _), (3, _, .cells #[.int .i64 _, .int .i64 _, .slice _ _ _] _ _)], _, _⟩ (fun _ h => h) ?_
      refine c_cond1 rfl rfl ?_
      refine c_seq ?_
      refine c_region ?_
      refine g_v rfl (r_move) ?_
      refine g_v rfl (r_assign) ?_
      refine g_nil ?_
      refine d_then ?_
      refine c_ret ?_
      refine d_ret_then ?_
      refine d_retR () Try.results4 ?_ trivial (fun _ _ => trivial) (.inr rfl)
      refine res_tmp ?_
      refine res_nil ?_
      exact rfl
  · have h37' := h37
    try simp only [Bool.not_true, Bool.not_false, decide_eq_true_eq, decide_eq_false_iff_not, Bool.not_eq_true', Bool.not_eq_false'] at h37'
    refine g_no rfl rfl rfl rfl rfl h37 ?_
    refine g_no rfl rfl rfl rfl rfl h37 ?_
    refine g_v rfl (r_pick1 rfl h37) ?_
    refine g_v rfl (r_move) ?_
    refine g_no rfl rfl rfl rfl rfl rfl ?_
    refine g_no rfl rfl rfl rfl rfl rfl ?_
    refine g_no rfl rfl rfl rfl rfl rfl ?_
    refine g_v rfl (r_pick1 rfl rfl) ?_
    refine g_nil ?_
    refine d_then ?_
    refine c_flat [(3, .pointer _), (4, .pointer _), (7, .bool _), (8, .slice _ _ _), (46, .bool _)] ⟨rfl, rfl, rfl, rfl, rfl, trivial⟩ (fun u => ?_)
    refine c_sta ⟨w, M, [(4, _, .cells #[.int .i64 _, .int .i64 _, .slice _ _ _] _ _), (3, _, .cells #[.int .i64 _, .int .i64 _, .slice _ _ _] _ _)], _, _⟩ (fun _ h => h) ?_
    refine c_cond1 rfl rfl ?_
    refine c_seq ?_
    refine c_region ?_
    refine g_v rfl (r_move) ?_
    refine g_v rfl (r_assign) ?_
    refine g_nil ?_
    refine d_then ?_
    refine c_ret ?_
    refine d_ret_then ?_
    refine d_retR () Try.results4 ?_ trivial (fun _ _ => trivial) (.inr rfl)
    refine res_tmp ?_
    refine res_nil ?_
    exact rfl
end Go.Proofs.Ytildknbbpkbkeaa
