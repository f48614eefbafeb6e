import Derived.Test.YtildknbbpkbkeaaT6
set_option maxRecDepth 16384
set_option maxHeartbeats 4000000
set_option linter.unusedVariables false
set_option linter.unusedSimpArgs false
namespace Go.Proofs.Ytildknbbpkbkeaa
open Go.RowKit

theorem build26n (b t : Int) : ∀ W, (Instr.build 26 #[(0, .int .i64 b), (1, .int .i64 t)]).run Try.prog W = .ok (.agg #[.int .i64 b, .int .i64 t, .slice none 0 0]) W := fun _ => by kernel_rfl
theorem Newer_nil {M : Nat → Prop} {w : World} (hF : Fact w M (fun _ => True)) (b t : Int) (h0 : 0 ≤ b) (h1 : b ≤ 9) (last term : Int) :
    Con Try.prog 16 #[.agg #[.int .i64 b, .int .i64 t, .slice none 0 0], .int .i64 last, .int .i64 term] w M (fun _ : Unit => .bool (decide (t < term ∨ (term = t ∧ b ≤ last)))) (fun _ => True) (fun _ _ => True) := by
  have h := Newer_con (w := w) (M := M) b t none 0 [] (hF.imp fun _ _ => Cl.nil _ _) ⟨by omega, by omega, by decide⟩ last term
  have e : (termI b t [] (b + (([] : List Ent).length : Int))).1 = t := by simp [termI]
  rw [e] at h
  simpa using h
theorem tmod10 (a : Int) : -9 ≤ a.tmod 10 ∧ a.tmod 10 ≤ 9 := by
  have h1 := Int.tmod_lt_of_pos a (show (0 : Int) < 10 by decide)
  have h2 := Int.lt_tmod_of_pos a (show (0 : Int) < 10 by decide)
  omega
section
variable {P : Program} {σ : Fr} {S : Sta} {t t' ty : TypeId} {x y : Operand}
theorem run_eqB (hu : P.underlying t = some .bool) (d : Nat) (a b : Bool) (W : World) : (Op.equalIn (d + 1) t (.bool a) (.bool b)).run P W = .ok (a == b) W := by simp [Op.equalIn, run_underlying hu]
theorem r_eqlB {a b : Bool} (hu : P.underlying t = some .bool) (hx : ev σ x = .bool a) (hy : ev σ y = .bool b) : Rn P σ S (.binOp .eql t x y t') ty (.bool (a == b)) :=
  r_bin hx hy (fun W => by
    simp only [eqGuard, binOp, Op.equal, show Op.maxDepth = 9999 + 1 from rfl]
    simp [run_eqB hu])
end

theorem Newer3_con {M : Nat → Prop} {w : World} (hF : Fact w M (fun _ => True)) (a0 a1 a2 b0 b1 b2 n : Int) : Con Try.prog 3 #[.agg #[.int .i64 a0, .int .i64 a1, .int .i64 a2], .agg #[.int .i64 b0, .int .i64 b1, .int .i64 b2], .int .i64 n] w M (fun _ : Unit => .bool true) (fun _ => True) (fun _ _ => True) := by
  refine con_intro (fn := Try.f3) (N := 115) Try.func3 rfl Try.ntmps3 hF rfl ?_
  refine c_seq ?_
  refine c_region ?_
  refine g_box rfl rfl (fun g3 => ?_)
  refine g_box rfl rfl (fun g4 => ?_)
  refine g_v rfl (r_assign) ?_
  refine g_nil ?_
  refine d_then ?_
  refine c_seq ?_
  refine c_region ?_
  refine g_callN Try.call15 rfl rfl (fun W hS => awake_con (hS.toFact.imp fun _ _ => trivial)) (fun _ _ => ?_)
  refine g_v rfl (r_assign) ?_
  refine g_nil ?_
  refine d_then ?_
  refine c_seq ?_
  refine c_region ?_
  refine g_alloc rfl Try.zeroValue27 (fun g8 => ?_)
  refine g_nil ?_
  refine d_then ?_
  refine c_seq ?_
  refine c_seq ?_
  refine c_region ?_
  refine g_v rfl (r_assign) ?_
  refine g_nil ?_
  refine d_then ?_
  refine c_block ?_
  refine c_rounds 3 ?_
  refine c_seq ?_
  refine c_seq ?_
  refine c_region ?_
  refine g_v rfl (r_move) ?_
  refine g_v rfl (r_lss rfl rfl) ?_
  refine g_nil ?_
  refine d_then ?_
  refine c_flat [(3, .pointer _), (4, .pointer _), (7, .bool _), (8, .pointer _), (9, .int .i64 _), (19, .bool _)] ⟨rfl, rfl, rfl, rfl, rfl, rfl, trivial⟩ (fun u => ?_)
  refine c_sta ⟨w, M, [(8, _, .cells #[.int .i64 _, .int .i64 _, .slice _ _ _, .int .i64 _, .int .i64 _, .slice _ _ _, .int .i64 _, .int .i64 _, .slice _ _ _] _ _), (4, _, .cells #[.int .i64 _, .int .i64 _, .int .i64 _] _ _), (3, _, .cells #[.int .i64 _, .int .i64 _, .int .i64 _] _ _)], _, _⟩ (fun _ h => h) ?_
  refine c_cond1 rfl rfl ?_
  refine c_skip ?_
  refine d_then ?_
  refine c_seq ?_
  refine c_block ?_
  refine c_seq ?_
  refine c_region ?_
  refine g_v rfl (r_move) ?_
  refine g_v rfl (r_elemH (n := 0) Try.underlying22 Try.sizeOf3 rfl rfl (by decide) (by decide) rfl) ?_
  refine g_v rfl (r_load (tag := 4) rfl rfl rfl Try.isAgg3) ?_
  refine g_v rfl (r_rem rfl rfl (by decide) rfl) ?_
  refine g_v rfl (r_assign) ?_
  refine g_nil ?_
  refine d_then ?_
  refine c_joinS (ι := Int) [3, 4, 7, 8, 9, 10] (fun t0 => [(10, Value.int .i64 t0)]) (fun t0 => 0 ≤ t0 ∧ t0 ≤ 9) ?_ (fun t0 u hI => ?_)
  · refine c_seq ?_
    have htm := tmod10 b0
    refine c_region ?_
    refine g_v rfl (r_move) ?_
    refine g_v rfl (r_lss rfl rfl) ?_
    refine g_nil ?_
    refine d_then ?_
    refine c_cond rfl (fun h27 => ?_) (fun h27 => ?_)
    · have h27' := h27
      try simp only [Bool.not_true, Bool.not_false, decide_eq_true_eq, decide_eq_false_iff_not, Bool.not_eq_true', Bool.not_eq_false'] at h27'
      refine c_region ?_
      refine g_v rfl (r_move) ?_
      refine g_v rfl (r_neg rfl (by first | exact IntWalk.i64_in _ (by omega) | rfl)) ?_
      refine g_v rfl (r_assign) ?_
      refine g_nil ?_
      refine d_flat [(3, .pointer _), (4, .pointer _), (7, .bool _), (8, .pointer _), (9, .int .i64 _), (10, .int .i64 _)] ⟨rfl, rfl, rfl, rfl, rfl, rfl, trivial⟩ (fun u => ?_)
      refine d_sta ⟨w, M, [(8, _, .cells #[.int .i64 _, .int .i64 _, .slice _ _ _, .int .i64 _, .int .i64 _, .slice _ _ _, .int .i64 _, .int .i64 _, .slice _ _ _] _ _), (4, _, .cells #[.int .i64 _, .int .i64 _, .int .i64 _] _ _), (3, _, .cells #[.int .i64 _, .int .i64 _, .int .i64 _] _ _)], _, _⟩ (fun _ h => h) ?_
      exact d_round (0 - b0.tmod 10) ⟨by omega, by omega⟩ Nat.zero_lt_one ⟨rfl, rfl, rfl, rfl, rfl, rfl, trivial⟩ (fun _ h => h)
    · have h27' := h27
      try simp only [Bool.not_true, Bool.not_false, decide_eq_true_eq, decide_eq_false_iff_not, Bool.not_eq_true', Bool.not_eq_false'] at h27'
      refine c_skip ?_
      refine d_flat [(3, .pointer _), (4, .pointer _), (7, .bool _), (8, .pointer _), (9, .int .i64 _), (10, .int .i64 _)] ⟨rfl, rfl, rfl, rfl, rfl, rfl, trivial⟩ (fun u => ?_)
      refine d_sta ⟨w, M, [(8, _, .cells #[.int .i64 _, .int .i64 _, .slice _ _ _, .int .i64 _, .int .i64 _, .slice _ _ _, .int .i64 _, .int .i64 _, .slice _ _ _] _ _), (4, _, .cells #[.int .i64 _, .int .i64 _, .int .i64 _] _ _), (3, _, .cells #[.int .i64 _, .int .i64 _, .int .i64 _] _ _)], _, _⟩ (fun _ h => h) ?_
      exact d_round (b0.tmod 10) ⟨by omega, by omega⟩ Nat.zero_lt_one ⟨rfl, rfl, rfl, rfl, rfl, rfl, trivial⟩ (fun _ h => h)
  · obtain ⟨ht0, ht0'⟩ := hI
    refine c_seq ?_
    refine c_region ?_
    refine g_v rfl (r_move) ?_
    refine g_v rfl (r_elemH (n := 0) Try.underlying22 Try.sizeOf3 rfl rfl (by decide) (by decide) rfl) ?_
    refine g_v rfl (r_load (tag := 3) rfl rfl rfl Try.isAgg3) ?_
    refine g_v rfl (r_rem rfl rfl (by decide) rfl) ?_
    refine g_v rfl (r_assign) ?_
    refine g_nil ?_
    refine d_then ?_
    refine c_flat [(3, .pointer _), (4, .pointer _), (7, .bool _), (8, .pointer _), (9, .int .i64 _), (10, .int .i64 _), (11, .int .i64 _)] ⟨rfl, rfl, rfl, rfl, rfl, rfl, rfl, trivial⟩ (fun u => ?_)
    refine c_sta ⟨w, M, [(8, _, .cells #[.int .i64 _, .int .i64 _, .slice _ _ _, .int .i64 _, .int .i64 _, .slice _ _ _, .int .i64 _, .int .i64 _, .slice _ _ _] _ _), (4, _, .cells #[.int .i64 _, .int .i64 _, .int .i64 _] _ _), (3, _, .cells #[.int .i64 _, .int .i64 _, .int .i64 _] _ _)], _, _⟩ (fun _ h => h) ?_
    refine c_joinS (ι := Int) [3, 4, 7, 8, 9, 10, 11] (fun k0 => [(11, Value.int .i64 k0)]) (fun k0 => 0 ≤ k0 ∧ k0 ≤ 9) ?_ (fun k0 u hI => ?_)
    · refine c_seq ?_
      have hkm := tmod10 a0
      refine c_region ?_
      refine g_v rfl (r_move) ?_
      refine g_v rfl (r_lss rfl rfl) ?_
      refine g_nil ?_
      refine d_then ?_
      refine c_cond rfl (fun h35 => ?_) (fun h35 => ?_)
      · have h35' := h35
        try simp only [Bool.not_true, Bool.not_false, decide_eq_true_eq, decide_eq_false_iff_not, Bool.not_eq_true', Bool.not_eq_false'] at h35'
        refine c_region ?_
        refine g_v rfl (r_move) ?_
        refine g_v rfl (r_neg rfl (by first | exact IntWalk.i64_in _ (by omega) | rfl)) ?_
        refine g_v rfl (r_assign) ?_
        refine g_nil ?_
        refine d_flat [(3, .pointer _), (4, .pointer _), (7, .bool _), (8, .pointer _), (9, .int .i64 _), (10, .int .i64 _), (11, .int .i64 _)] ⟨rfl, rfl, rfl, rfl, rfl, rfl, rfl, trivial⟩ (fun u => ?_)
        refine d_sta ⟨w, M, [(8, _, .cells #[.int .i64 _, .int .i64 _, .slice _ _ _, .int .i64 _, .int .i64 _, .slice _ _ _, .int .i64 _, .int .i64 _, .slice _ _ _] _ _), (4, _, .cells #[.int .i64 _, .int .i64 _, .int .i64 _] _ _), (3, _, .cells #[.int .i64 _, .int .i64 _, .int .i64 _] _ _)], _, _⟩ (fun _ h => h) ?_
        exact d_round (0 - a0.tmod 10) ⟨by omega, by omega⟩ Nat.zero_lt_one ⟨rfl, rfl, rfl, rfl, rfl, rfl, rfl, trivial⟩ (fun _ h => h)
      · have h35' := h35
        try simp only [Bool.not_true, Bool.not_false, decide_eq_true_eq, decide_eq_false_iff_not, Bool.not_eq_true', Bool.not_eq_false'] at h35'
        refine c_skip ?_
        exact d_round (a0.tmod 10) ⟨by omega, by omega⟩ Nat.zero_lt_one ⟨rfl, rfl, rfl, rfl, rfl, rfl, rfl, trivial⟩ (fun _ h => h)
    · obtain ⟨hk0, hk0'⟩ := hI
      refine c_seq ?_
      refine c_region ?_
      refine g_v rfl (r_move) ?_
      refine g_v rfl (r_move) ?_
      refine g_v rfl (r_elemH (n := 0) Try.underlying22 Try.sizeOf3 rfl rfl (by decide) (by decide) rfl) ?_
      refine g_store (tag := 4) rfl rfl rfl rfl Try.sizeOf3 rfl (.inl (Nat.zero_le _)) rfl ?_
      refine g_nil ?_
      refine d_then ?_
      refine c_seq ?_
      refine c_region ?_
      refine g_v rfl (r_move) ?_
      refine g_v rfl (r_move) ?_
      refine g_v rfl (r_elemH (n := 0) Try.underlying22 Try.sizeOf3 rfl rfl (by decide) (by decide) rfl) ?_
      refine g_store (tag := 3) rfl rfl rfl rfl Try.sizeOf3 rfl (.inl (Nat.zero_le _)) rfl ?_
      refine g_nil ?_
      refine d_then ?_
      refine c_region ?_
      refine g_v rfl (r_move) ?_
      refine g_v rfl (r_move) ?_
      refine g_v rfl (r_move) ?_
      refine g_v rfl (r_build _ rfl (build26n _ _)) ?_
      refine g_v rfl (r_elemH (n := 0) Try.underlying27 Try.sizeOf26 rfl rfl (by decide) (by decide) rfl) ?_
      refine g_store (tag := 8) rfl rfl rfl rfl Try.sizeOf26 rfl (.inl (Nat.zero_le _)) rfl ?_
      refine g_nil ?_
      refine d_normal_block ?_
      refine d_then ?_
      refine c_flat [(3, .pointer _), (4, .pointer _), (7, .bool _), (8, .pointer _), (9, .int .i64 _)] ⟨rfl, rfl, rfl, rfl, rfl, trivial⟩ (fun u => ?_)
      refine c_sta ⟨w, M, [(8, _, .cells #[.int .i64 _, .int .i64 _, .slice _ _ _, .int .i64 _, .int .i64 _, .slice _ _ _, .int .i64 _, .int .i64 _, .slice _ _ _] _ _), (4, _, .cells #[.int .i64 _, .int .i64 _, .int .i64 _] _ _), (3, _, .cells #[.int .i64 _, .int .i64 _, .int .i64 _] _ _)], _, _⟩ (fun _ h => h) ?_
      refine c_region ?_
      refine g_v rfl (r_move) ?_
      refine g_v rfl (r_add rfl rfl (by first | exact IntWalk.i64_in _ (by omega) | rfl)) ?_
      refine g_v rfl (r_assign) ?_
      refine g_nil ?_
      refine d_rounds ?_
      refine c_seq ?_
      refine c_seq ?_
      refine c_region ?_
      refine g_v rfl (r_move) ?_
      refine g_v rfl (r_lss rfl rfl) ?_
      refine g_nil ?_
      refine d_then ?_
      refine c_cond1 rfl rfl ?_
      refine c_skip ?_
      refine d_then ?_
      refine c_seq ?_
      refine c_block ?_
      refine c_seq ?_
      refine c_region ?_
      refine g_v rfl (r_move) ?_
      refine g_v rfl (r_elemH (n := 1) Try.underlying22 Try.sizeOf3 rfl rfl (by decide) (by decide) rfl) ?_
      refine g_v rfl (r_load (tag := 4) rfl rfl rfl Try.isAgg3) ?_
      refine g_v rfl (r_rem rfl rfl (by decide) rfl) ?_
      refine g_v rfl (r_assign) ?_
      refine g_nil ?_
      refine d_then ?_
      refine c_flat [(3, .pointer _), (4, .pointer _), (7, .bool _), (8, .pointer _), (9, .int .i64 _), (10, .int .i64 _)] ⟨rfl, rfl, rfl, rfl, rfl, rfl, trivial⟩ (fun u => ?_)
      refine c_sta ⟨w, M, [(8, _, .cells #[.int .i64 _, .int .i64 _, .slice _ _ _, .int .i64 _, .int .i64 _, .slice _ _ _, .int .i64 _, .int .i64 _, .slice _ _ _] _ _), (4, _, .cells #[.int .i64 _, .int .i64 _, .int .i64 _] _ _), (3, _, .cells #[.int .i64 _, .int .i64 _, .int .i64 _] _ _)], _, _⟩ (fun _ h => h) ?_
      refine c_joinS (ι := Int) [3, 4, 7, 8, 9, 10] (fun t1 => [(10, Value.int .i64 t1)]) (fun t1 => 0 ≤ t1 ∧ t1 ≤ 9) ?_ (fun t1 u hI => ?_)
      · refine c_seq ?_
        have htm := tmod10 b1
        refine c_region ?_
        refine g_v rfl (r_move) ?_
        refine g_v rfl (r_lss rfl rfl) ?_
        refine g_nil ?_
        refine d_then ?_
        refine c_cond rfl (fun h27 => ?_) (fun h27 => ?_)
        · have h27' := h27
          try simp only [Bool.not_true, Bool.not_false, decide_eq_true_eq, decide_eq_false_iff_not, Bool.not_eq_true', Bool.not_eq_false'] at h27'
          refine c_region ?_
          refine g_v rfl (r_move) ?_
          refine g_v rfl (r_neg rfl (by first | exact IntWalk.i64_in _ (by omega) | rfl)) ?_
          refine g_v rfl (r_assign) ?_
          refine g_nil ?_
          refine d_flat [(3, .pointer _), (4, .pointer _), (7, .bool _), (8, .pointer _), (9, .int .i64 _), (10, .int .i64 _)] ⟨rfl, rfl, rfl, rfl, rfl, rfl, trivial⟩ (fun u => ?_)
          refine d_sta ⟨w, M, [(8, _, .cells #[.int .i64 _, .int .i64 _, .slice _ _ _, .int .i64 _, .int .i64 _, .slice _ _ _, .int .i64 _, .int .i64 _, .slice _ _ _] _ _), (4, _, .cells #[.int .i64 _, .int .i64 _, .int .i64 _] _ _), (3, _, .cells #[.int .i64 _, .int .i64 _, .int .i64 _] _ _)], _, _⟩ (fun _ h => h) ?_
          exact d_round (0 - b1.tmod 10) ⟨by omega, by omega⟩ Nat.zero_lt_one ⟨rfl, rfl, rfl, rfl, rfl, rfl, trivial⟩ (fun _ h => h)
        · have h27' := h27
          try simp only [Bool.not_true, Bool.not_false, decide_eq_true_eq, decide_eq_false_iff_not, Bool.not_eq_true', Bool.not_eq_false'] at h27'
          refine c_skip ?_
          exact d_round (b1.tmod 10) ⟨by omega, by omega⟩ Nat.zero_lt_one ⟨rfl, rfl, rfl, rfl, rfl, rfl, trivial⟩ (fun _ h => h)
      · obtain ⟨ht1, ht1'⟩ := hI
        refine c_seq ?_
        refine c_region ?_
        refine g_v rfl (r_move) ?_
        refine g_v rfl (r_elemH (n := 1) Try.underlying22 Try.sizeOf3 rfl rfl (by decide) (by decide) rfl) ?_
        refine g_v rfl (r_load (tag := 3) rfl rfl rfl Try.isAgg3) ?_
        refine g_v rfl (r_rem rfl rfl (by decide) rfl) ?_
        refine g_v rfl (r_assign) ?_
        refine g_nil ?_
        refine d_then ?_
        refine c_joinS (ι := Int) [3, 4, 7, 8, 9, 10, 11] (fun k1 => [(11, Value.int .i64 k1)]) (fun k1 => 0 ≤ k1 ∧ k1 ≤ 9) ?_ (fun k1 u hI => ?_)
        · refine c_seq ?_
          have hkm := tmod10 a1
          refine c_region ?_
          refine g_v rfl (r_move) ?_
          refine g_v rfl (r_lss rfl rfl) ?_
          refine g_nil ?_
          refine d_then ?_
          refine c_cond rfl (fun h35 => ?_) (fun h35 => ?_)
          · have h35' := h35
            try simp only [Bool.not_true, Bool.not_false, decide_eq_true_eq, decide_eq_false_iff_not, Bool.not_eq_true', Bool.not_eq_false'] at h35'
            refine c_region ?_
            refine g_v rfl (r_move) ?_
            refine g_v rfl (r_neg rfl (by first | exact IntWalk.i64_in _ (by omega) | rfl)) ?_
            refine g_v rfl (r_assign) ?_
            refine g_nil ?_
            refine d_flat [(3, .pointer _), (4, .pointer _), (7, .bool _), (8, .pointer _), (9, .int .i64 _), (10, .int .i64 _), (11, .int .i64 _)] ⟨rfl, rfl, rfl, rfl, rfl, rfl, rfl, trivial⟩ (fun u => ?_)
            refine d_sta ⟨w, M, [(8, _, .cells #[.int .i64 _, .int .i64 _, .slice _ _ _, .int .i64 _, .int .i64 _, .slice _ _ _, .int .i64 _, .int .i64 _, .slice _ _ _] _ _), (4, _, .cells #[.int .i64 _, .int .i64 _, .int .i64 _] _ _), (3, _, .cells #[.int .i64 _, .int .i64 _, .int .i64 _] _ _)], _, _⟩ (fun _ h => h) ?_
            exact d_round (0 - a1.tmod 10) ⟨by omega, by omega⟩ Nat.zero_lt_one ⟨rfl, rfl, rfl, rfl, rfl, rfl, rfl, trivial⟩ (fun _ h => h)
          · have h35' := h35
            try simp only [Bool.not_true, Bool.not_false, decide_eq_true_eq, decide_eq_false_iff_not, Bool.not_eq_true', Bool.not_eq_false'] at h35'
            refine c_skip ?_
            refine d_flat [(3, .pointer _), (4, .pointer _), (7, .bool _), (8, .pointer _), (9, .int .i64 _), (10, .int .i64 _), (11, .int .i64 _)] ⟨rfl, rfl, rfl, rfl, rfl, rfl, rfl, trivial⟩ (fun u => ?_)
            refine d_sta ⟨w, M, [(8, _, .cells #[.int .i64 _, .int .i64 _, .slice _ _ _, .int .i64 _, .int .i64 _, .slice _ _ _, .int .i64 _, .int .i64 _, .slice _ _ _] _ _), (4, _, .cells #[.int .i64 _, .int .i64 _, .int .i64 _] _ _), (3, _, .cells #[.int .i64 _, .int .i64 _, .int .i64 _] _ _)], _, _⟩ (fun _ h => h) ?_
            exact d_round (a1.tmod 10) ⟨by omega, by omega⟩ Nat.zero_lt_one ⟨rfl, rfl, rfl, rfl, rfl, rfl, rfl, trivial⟩ (fun _ h => h)
        · obtain ⟨hk1, hk1'⟩ := hI
          refine c_seq ?_
          refine c_region ?_
          refine g_v rfl (r_move) ?_
          refine g_v rfl (r_move) ?_
          refine g_v rfl (r_elemH (n := 1) Try.underlying22 Try.sizeOf3 rfl rfl (by decide) (by decide) rfl) ?_
          refine g_store (tag := 4) rfl rfl rfl rfl Try.sizeOf3 rfl (.inl (Nat.zero_le _)) rfl ?_
          refine g_nil ?_
          refine d_then ?_
          refine c_flat [(3, .pointer _), (4, .pointer _), (7, .bool _), (8, .pointer _), (9, .int .i64 _), (10, .int .i64 _), (11, .int .i64 _)] ⟨rfl, rfl, rfl, rfl, rfl, rfl, rfl, trivial⟩ (fun u => ?_)
          refine c_sta ⟨w, M, [(8, _, .cells #[.int .i64 _, .int .i64 _, .slice _ _ _, .int .i64 _, .int .i64 _, .slice _ _ _, .int .i64 _, .int .i64 _, .slice _ _ _] _ _), (4, _, .cells #[.int .i64 _, .int .i64 _, .int .i64 _] _ _), (3, _, .cells #[.int .i64 _, .int .i64 _, .int .i64 _] _ _)], _, _⟩ (fun _ h => h) ?_
          refine c_seq ?_
          refine c_region ?_
          refine g_v rfl (r_move) ?_
          refine g_v rfl (r_move) ?_
          refine g_v rfl (r_elemH (n := 1) Try.underlying22 Try.sizeOf3 rfl rfl (by decide) (by decide) rfl) ?_
          refine g_store (tag := 3) rfl rfl rfl rfl Try.sizeOf3 rfl (.inl (Nat.zero_le _)) rfl ?_
          refine g_nil ?_
          refine d_then ?_
          refine c_region ?_
          refine g_v rfl (r_move) ?_
          refine g_v rfl (r_move) ?_
          refine g_v rfl (r_move) ?_
          refine g_v rfl (r_build _ rfl (build26n _ _)) ?_
          refine g_v rfl (r_elemH (n := 3) Try.underlying27 Try.sizeOf26 rfl rfl (by decide) (by decide) rfl) ?_
          refine g_store (tag := 8) rfl rfl rfl rfl Try.sizeOf26 rfl (.inl (Nat.zero_le _)) rfl ?_
          refine g_nil ?_
          refine d_normal_block ?_
          refine d_then ?_
          refine c_flat [(3, .pointer _), (4, .pointer _), (7, .bool _), (8, .pointer _), (9, .int .i64 _)] ⟨rfl, rfl, rfl, rfl, rfl, trivial⟩ (fun u => ?_)
          refine c_sta ⟨w, M, [(8, _, .cells #[.int .i64 _, .int .i64 _, .slice _ _ _, .int .i64 _, .int .i64 _, .slice _ _ _, .int .i64 _, .int .i64 _, .slice _ _ _] _ _), (4, _, .cells #[.int .i64 _, .int .i64 _, .int .i64 _] _ _), (3, _, .cells #[.int .i64 _, .int .i64 _, .int .i64 _] _ _)], _, _⟩ (fun _ h => h) ?_
          refine c_region ?_
          refine g_v rfl (r_move) ?_
          refine g_v rfl (r_add rfl rfl (by first | exact IntWalk.i64_in _ (by omega) | rfl)) ?_
          refine g_v rfl (r_assign) ?_
          refine g_nil ?_
          refine d_rounds ?_
          refine c_seq ?_
          refine c_seq ?_
          refine c_region ?_
          refine g_v rfl (r_move) ?_
          refine g_v rfl (r_lss rfl rfl) ?_
          refine g_nil ?_
          refine d_then ?_
          refine c_cond1 rfl rfl ?_
          refine c_skip ?_
          refine d_then ?_
          refine c_seq ?_
          refine c_block ?_
          refine c_seq ?_
          refine c_region ?_
          refine g_v rfl (r_move) ?_
          refine g_v rfl (r_elemH (n := 2) Try.underlying22 Try.sizeOf3 rfl rfl (by decide) (by decide) rfl) ?_
          refine g_v rfl (r_load (tag := 4) rfl rfl rfl Try.isAgg3) ?_
          refine g_v rfl (r_rem rfl rfl (by decide) rfl) ?_
          refine g_v rfl (r_assign) ?_
          refine g_nil ?_
          refine d_then ?_
          refine c_flat [(3, .pointer _), (4, .pointer _), (7, .bool _), (8, .pointer _), (9, .int .i64 _), (10, .int .i64 _)] ⟨rfl, rfl, rfl, rfl, rfl, rfl, trivial⟩ (fun u => ?_)
          refine c_sta ⟨w, M, [(8, _, .cells #[.int .i64 _, .int .i64 _, .slice _ _ _, .int .i64 _, .int .i64 _, .slice _ _ _, .int .i64 _, .int .i64 _, .slice _ _ _] _ _), (4, _, .cells #[.int .i64 _, .int .i64 _, .int .i64 _] _ _), (3, _, .cells #[.int .i64 _, .int .i64 _, .int .i64 _] _ _)], _, _⟩ (fun _ h => h) ?_
          refine c_joinS (ι := Int) [3, 4, 7, 8, 9, 10] (fun t2 => [(10, Value.int .i64 t2)]) (fun t2 => 0 ≤ t2 ∧ t2 ≤ 9) ?_ (fun t2 u hI => ?_)
          · refine c_seq ?_
            have htm := tmod10 b2
            refine c_region ?_
            refine g_v rfl (r_move) ?_
            refine g_v rfl (r_lss rfl rfl) ?_
            refine g_nil ?_
            refine d_then ?_
            refine c_cond rfl (fun h27 => ?_) (fun h27 => ?_)
            · have h27' := h27
              try simp only [Bool.not_true, Bool.not_false, decide_eq_true_eq, decide_eq_false_iff_not, Bool.not_eq_true', Bool.not_eq_false'] at h27'
              refine c_region ?_
              refine g_v rfl (r_move) ?_
              refine g_v rfl (r_neg rfl (by first | exact IntWalk.i64_in _ (by omega) | rfl)) ?_
              refine g_v rfl (r_assign) ?_
              refine g_nil ?_
              refine d_flat [(3, .pointer _), (4, .pointer _), (7, .bool _), (8, .pointer _), (9, .int .i64 _), (10, .int .i64 _)] ⟨rfl, rfl, rfl, rfl, rfl, rfl, trivial⟩ (fun u => ?_)
              refine d_sta ⟨w, M, [(8, _, .cells #[.int .i64 _, .int .i64 _, .slice _ _ _, .int .i64 _, .int .i64 _, .slice _ _ _, .int .i64 _, .int .i64 _, .slice _ _ _] _ _), (4, _, .cells #[.int .i64 _, .int .i64 _, .int .i64 _] _ _), (3, _, .cells #[.int .i64 _, .int .i64 _, .int .i64 _] _ _)], _, _⟩ (fun _ h => h) ?_
              exact d_round (0 - b2.tmod 10) ⟨by omega, by omega⟩ Nat.zero_lt_one ⟨rfl, rfl, rfl, rfl, rfl, rfl, trivial⟩ (fun _ h => h)
            · have h27' := h27
              try simp only [Bool.not_true, Bool.not_false, decide_eq_true_eq, decide_eq_false_iff_not, Bool.not_eq_true', Bool.not_eq_false'] at h27'
              refine c_skip ?_
              exact d_round (b2.tmod 10) ⟨by omega, by omega⟩ Nat.zero_lt_one ⟨rfl, rfl, rfl, rfl, rfl, rfl, trivial⟩ (fun _ h => h)
          · obtain ⟨ht2, ht2'⟩ := hI
            refine c_seq ?_
            refine c_region ?_
            refine g_v rfl (r_move) ?_
            refine g_v rfl (r_elemH (n := 2) Try.underlying22 Try.sizeOf3 rfl rfl (by decide) (by decide) rfl) ?_
            refine g_v rfl (r_load (tag := 3) rfl rfl rfl Try.isAgg3) ?_
            refine g_v rfl (r_rem rfl rfl (by decide) rfl) ?_
            refine g_v rfl (r_assign) ?_
            refine g_nil ?_
            refine d_then ?_
            refine c_joinS (ι := Int) [3, 4, 7, 8, 9, 10, 11] (fun k2 => [(11, Value.int .i64 k2)]) (fun k2 => 0 ≤ k2 ∧ k2 ≤ 9) ?_ (fun k2 u hI => ?_)
            · refine c_seq ?_
              have hkm := tmod10 a2
              refine c_region ?_
              refine g_v rfl (r_move) ?_
              refine g_v rfl (r_lss rfl rfl) ?_
              refine g_nil ?_
              refine d_then ?_
              refine c_cond rfl (fun h35 => ?_) (fun h35 => ?_)
              · have h35' := h35
                try simp only [Bool.not_true, Bool.not_false, decide_eq_true_eq, decide_eq_false_iff_not, Bool.not_eq_true', Bool.not_eq_false'] at h35'
                refine c_region ?_
                refine g_v rfl (r_move) ?_
                refine g_v rfl (r_neg rfl (by first | exact IntWalk.i64_in _ (by omega) | rfl)) ?_
                refine g_v rfl (r_assign) ?_
                refine g_nil ?_
                refine d_flat [(3, .pointer _), (4, .pointer _), (7, .bool _), (8, .pointer _), (9, .int .i64 _), (10, .int .i64 _), (11, .int .i64 _)] ⟨rfl, rfl, rfl, rfl, rfl, rfl, rfl, trivial⟩ (fun u => ?_)
                refine d_sta ⟨w, M, [(8, _, .cells #[.int .i64 _, .int .i64 _, .slice _ _ _, .int .i64 _, .int .i64 _, .slice _ _ _, .int .i64 _, .int .i64 _, .slice _ _ _] _ _), (4, _, .cells #[.int .i64 _, .int .i64 _, .int .i64 _] _ _), (3, _, .cells #[.int .i64 _, .int .i64 _, .int .i64 _] _ _)], _, _⟩ (fun _ h => h) ?_
                exact d_round (0 - a2.tmod 10) ⟨by omega, by omega⟩ Nat.zero_lt_one ⟨rfl, rfl, rfl, rfl, rfl, rfl, rfl, trivial⟩ (fun _ h => h)
              · have h35' := h35
                try simp only [Bool.not_true, Bool.not_false, decide_eq_true_eq, decide_eq_false_iff_not, Bool.not_eq_true', Bool.not_eq_false'] at h35'
                refine c_skip ?_
                refine d_flat [(3, .pointer _), (4, .pointer _), (7, .bool _), (8, .pointer _), (9, .int .i64 _), (10, .int .i64 _), (11, .int .i64 _)] ⟨rfl, rfl, rfl, rfl, rfl, rfl, rfl, trivial⟩ (fun u => ?_)
                refine d_sta ⟨w, M, [(8, _, .cells #[.int .i64 _, .int .i64 _, .slice _ _ _, .int .i64 _, .int .i64 _, .slice _ _ _, .int .i64 _, .int .i64 _, .slice _ _ _] _ _), (4, _, .cells #[.int .i64 _, .int .i64 _, .int .i64 _] _ _), (3, _, .cells #[.int .i64 _, .int .i64 _, .int .i64 _] _ _)], _, _⟩ (fun _ h => h) ?_
                exact d_round (a2.tmod 10) ⟨by omega, by omega⟩ Nat.zero_lt_one ⟨rfl, rfl, rfl, rfl, rfl, rfl, rfl, trivial⟩ (fun _ h => h)
            · obtain ⟨hk2, hk2'⟩ := hI
              refine c_seq ?_
              refine c_region ?_
              refine g_v rfl (r_move) ?_
              refine g_v rfl (r_move) ?_
              refine g_v rfl (r_elemH (n := 2) Try.underlying22 Try.sizeOf3 rfl rfl (by decide) (by decide) rfl) ?_
              refine g_store (tag := 4) rfl rfl rfl rfl Try.sizeOf3 rfl (.inl (Nat.zero_le _)) rfl ?_
              refine g_nil ?_
              refine d_then ?_
              refine c_flat [(3, .pointer _), (4, .pointer _), (7, .bool _), (8, .pointer _), (9, .int .i64 _), (10, .int .i64 _), (11, .int .i64 _)] ⟨rfl, rfl, rfl, rfl, rfl, rfl, rfl, trivial⟩ (fun u => ?_)
              refine c_sta ⟨w, M, [(8, _, .cells #[.int .i64 _, .int .i64 _, .slice _ _ _, .int .i64 _, .int .i64 _, .slice _ _ _, .int .i64 _, .int .i64 _, .slice _ _ _] _ _), (4, _, .cells #[.int .i64 _, .int .i64 _, .int .i64 _] _ _), (3, _, .cells #[.int .i64 _, .int .i64 _, .int .i64 _] _ _)], _, _⟩ (fun _ h => h) ?_
              refine c_seq ?_
              refine c_region ?_
              refine g_v rfl (r_move) ?_
              refine g_v rfl (r_move) ?_
              refine g_v rfl (r_elemH (n := 2) Try.underlying22 Try.sizeOf3 rfl rfl (by decide) (by decide) rfl) ?_
              refine g_store (tag := 3) rfl rfl rfl rfl Try.sizeOf3 rfl (.inl (Nat.zero_le _)) rfl ?_
              refine g_nil ?_
              refine d_then ?_
              refine c_region ?_
              refine g_v rfl (r_move) ?_
              refine g_v rfl (r_move) ?_
              refine g_v rfl (r_move) ?_
              refine g_v rfl (r_build _ rfl (build26n _ _)) ?_
              refine g_v rfl (r_elemH (n := 6) Try.underlying27 Try.sizeOf26 rfl rfl (by decide) (by decide) rfl) ?_
              refine g_store (tag := 8) rfl rfl rfl rfl Try.sizeOf26 rfl (.inl (Nat.zero_le _)) rfl ?_
              refine g_nil ?_
              refine d_normal_block ?_
              refine d_then ?_
              refine c_flat [(3, .pointer _), (4, .pointer _), (7, .bool _), (8, .pointer _), (9, .int .i64 _)] ⟨rfl, rfl, rfl, rfl, rfl, trivial⟩ (fun u => ?_)
              refine c_sta ⟨w, M, [(8, _, .cells #[.int .i64 _, .int .i64 _, .slice _ _ _, .int .i64 _, .int .i64 _, .slice _ _ _, .int .i64 _, .int .i64 _, .slice _ _ _] _ _), (4, _, .cells #[.int .i64 _, .int .i64 _, .int .i64 _] _ _), (3, _, .cells #[.int .i64 _, .int .i64 _, .int .i64 _] _ _)], _, _⟩ (fun _ h => h) ?_
              refine c_region ?_
              refine g_v rfl (r_move) ?_
              refine g_v rfl (r_add rfl rfl (by first | exact IntWalk.i64_in _ (by omega) | rfl)) ?_
              refine g_v rfl (r_assign) ?_
              refine g_nil ?_
              refine d_rounds ?_
              refine c_seq ?_
              refine c_seq ?_
              refine c_region ?_
              refine g_v rfl (r_move) ?_
              refine g_v rfl (r_lss rfl rfl) ?_
              refine g_nil ?_
              refine d_then ?_
              refine c_cond0 rfl rfl ?_
              refine c_exit ?_
              refine d_exit_then ?_
              refine d_exit_then ?_
              refine d_exit_block ?_
              refine d_then ?_
              refine c_seq ?_
              refine c_region ?_
              refine g_v rfl (r_elemH (n := 0) Try.underlying27 Try.sizeOf26 rfl rfl (by decide) (by decide) rfl) ?_
              refine g_v rfl (r_loadA (tag := 8) rfl rfl Try.isAgg26 Try.sizeOf26 rfl rfl) ?_
              refine g_v rfl (r_elemH (n := 1) Try.underlying22 Try.sizeOf3 rfl rfl (by decide) (by decide) rfl) ?_
              refine g_v rfl (r_load (tag := 3) rfl rfl rfl Try.isAgg3) ?_
              refine g_v rfl (r_elemH (n := 1) Try.underlying22 Try.sizeOf3 rfl rfl (by decide) (by decide) rfl) ?_
              refine g_v rfl (r_load (tag := 4) rfl rfl rfl Try.isAgg3) ?_
              refine g_callN Try.call16 rfl rfl (fun W hS => Newer_nil (hS.toFact.imp fun _ _ => trivial) k0 t0 hk0 hk0' k1 t1) (fun _ _ => ?_)
              refine g_v rfl (r_assign) ?_
              refine g_nil ?_
              refine d_then ?_
              refine c_flat [(3, .pointer _), (4, .pointer _), (7, .bool _), (8, .pointer _), (12, .bool _)] ⟨rfl, rfl, rfl, rfl, rfl, trivial⟩ (fun u => ?_)
              refine c_sta ⟨w, M, [(8, _, .cells #[.int .i64 _, .int .i64 _, .slice _ _ _, .int .i64 _, .int .i64 _, .slice _ _ _, .int .i64 _, .int .i64 _, .slice _ _ _] _ _), (4, _, .cells #[.int .i64 _, .int .i64 _, .int .i64 _] _ _), (3, _, .cells #[.int .i64 _, .int .i64 _, .int .i64 _] _ _)], _, _⟩ (fun _ h => h) ?_
              refine c_seq ?_
              refine c_region ?_
              refine g_v rfl (r_elemH (n := 3) Try.underlying27 Try.sizeOf26 rfl rfl (by decide) (by decide) rfl) ?_
              refine g_v rfl (r_loadA (tag := 8) rfl rfl Try.isAgg26 Try.sizeOf26 rfl rfl) ?_
              refine g_v rfl (r_elemH (n := 0) Try.underlying22 Try.sizeOf3 rfl rfl (by decide) (by decide) rfl) ?_
              refine g_v rfl (r_load (tag := 3) rfl rfl rfl Try.isAgg3) ?_
              refine g_v rfl (r_elemH (n := 0) Try.underlying22 Try.sizeOf3 rfl rfl (by decide) (by decide) rfl) ?_
              refine g_v rfl (r_load (tag := 4) rfl rfl rfl Try.isAgg3) ?_
              refine g_callN Try.call16 rfl rfl (fun W hS => Newer_nil (hS.toFact.imp fun _ _ => trivial) k1 t1 hk1 hk1' k0 t0) (fun _ _ => ?_)
              refine g_v rfl (r_assign) ?_
              refine g_nil ?_
              refine d_then ?_
              refine c_seq ?_
              refine c_region ?_
              refine g_v rfl (r_elemH (n := 3) Try.underlying27 Try.sizeOf26 rfl rfl (by decide) (by decide) rfl) ?_
              refine g_v rfl (r_loadA (tag := 8) rfl rfl Try.isAgg26 Try.sizeOf26 rfl rfl) ?_
              refine g_v rfl (r_elemH (n := 2) Try.underlying22 Try.sizeOf3 rfl rfl (by decide) (by decide) rfl) ?_
              refine g_v rfl (r_load (tag := 3) rfl rfl rfl Try.isAgg3) ?_
              refine g_v rfl (r_elemH (n := 2) Try.underlying22 Try.sizeOf3 rfl rfl (by decide) (by decide) rfl) ?_
              refine g_v rfl (r_load (tag := 4) rfl rfl rfl Try.isAgg3) ?_
              refine g_callN Try.call16 rfl rfl (fun W hS => Newer_nil (hS.toFact.imp fun _ _ => trivial) k1 t1 hk1 hk1' k2 t2) (fun _ _ => ?_)
              refine g_v rfl (r_assign) ?_
              refine g_nil ?_
              refine d_then ?_
              refine c_flat [(3, .pointer _), (4, .pointer _), (7, .bool _), (8, .pointer _), (12, .bool _), (13, .bool _), (14, .bool _)] ⟨rfl, rfl, rfl, rfl, rfl, rfl, rfl, trivial⟩ (fun u => ?_)
              refine c_sta ⟨w, M, [(8, _, .cells #[.int .i64 _, .int .i64 _, .slice _ _ _, .int .i64 _, .int .i64 _, .slice _ _ _, .int .i64 _, .int .i64 _, .slice _ _ _] _ _), (4, _, .cells #[.int .i64 _, .int .i64 _, .int .i64 _] _ _), (3, _, .cells #[.int .i64 _, .int .i64 _, .int .i64 _] _ _)], _, _⟩ (fun _ h => h) ?_
              refine c_seq ?_
              refine c_region ?_
              refine g_v rfl (r_elemH (n := 0) Try.underlying27 Try.sizeOf26 rfl rfl (by decide) (by decide) rfl) ?_
              refine g_v rfl (r_loadA (tag := 8) rfl rfl Try.isAgg26 Try.sizeOf26 rfl rfl) ?_
              refine g_v rfl (r_elemH (n := 2) Try.underlying22 Try.sizeOf3 rfl rfl (by decide) (by decide) rfl) ?_
              refine g_v rfl (r_load (tag := 3) rfl rfl rfl Try.isAgg3) ?_
              refine g_v rfl (r_elemH (n := 2) Try.underlying22 Try.sizeOf3 rfl rfl (by decide) (by decide) rfl) ?_
              refine g_v rfl (r_load (tag := 4) rfl rfl rfl Try.isAgg3) ?_
              refine g_callN Try.call16 rfl rfl (fun W hS => Newer_nil (hS.toFact.imp fun _ _ => trivial) k0 t0 hk0 hk0' k2 t2) (fun _ _ => ?_)
              refine g_v rfl (r_assign) ?_
              refine g_nil ?_
              refine d_then ?_
              refine c_seq ?_
              refine c_region ?_
              refine g_v rfl (r_elemH (n := 0) Try.underlying22 Try.sizeOf3 rfl rfl (by decide) (by decide) rfl) ?_
              refine g_v rfl (r_load (tag := 3) rfl rfl rfl Try.isAgg3) ?_
              refine g_v rfl (r_elemH (n := 1) Try.underlying22 Try.sizeOf3 rfl rfl (by decide) (by decide) rfl) ?_
              refine g_v rfl (r_load (tag := 3) rfl rfl rfl Try.isAgg3) ?_
              refine g_v rfl (r_eql rfl rfl) ?_
              refine g_v rfl (r_move) ?_
              refine g_if rfl rfl rfl rfl rfl (fun h82 => ?_) (fun h82 => ?_)
              · skip
                refine g_v rfl (r_elemH (n := 0) Try.underlying22 Try.sizeOf3 rfl rfl (by decide) (by decide) rfl) ?_
                refine g_do rfl rfl rfl rfl rfl h82 ?_
                refine g_v rfl (r_load (tag := 4) rfl rfl rfl Try.isAgg3) ?_
                refine g_do rfl rfl rfl rfl rfl h82 ?_
                refine g_v rfl (r_elemH (n := 1) Try.underlying22 Try.sizeOf3 rfl rfl (by decide) (by decide) rfl) ?_
                refine g_do rfl rfl rfl rfl rfl h82 ?_
                refine g_v rfl (r_load (tag := 4) rfl rfl rfl Try.isAgg3) ?_
                refine g_do rfl rfl rfl rfl rfl h82 ?_
                refine g_v rfl (r_eql rfl rfl) ?_
                refine g_v rfl (r_pick1 rfl h82) ?_
                refine g_v rfl (r_assign) ?_
                refine g_nil ?_
                refine d_then ?_
                refine c_flat [(7, .bool _), (12, .bool _), (13, .bool _), (14, .bool _), (15, .bool _), (16, .bool _)] ⟨rfl, rfl, rfl, rfl, rfl, rfl, trivial⟩ (fun u => ?_)
                refine c_sta ⟨w, M, [(8, _, .cells #[.int .i64 _, .int .i64 _, .slice _ _ _, .int .i64 _, .int .i64 _, .slice _ _ _, .int .i64 _, .int .i64 _, .slice _ _ _] _ _), (4, _, .cells #[.int .i64 _, .int .i64 _, .int .i64 _] _ _), (3, _, .cells #[.int .i64 _, .int .i64 _, .int .i64 _] _ _)], _, _⟩ (fun _ h => h) ?_
                refine c_seq ?_
                refine c_region ?_
                refine g_v rfl (r_move) ?_
                refine g_v rfl (r_move) ?_
                refine g_do rfl rfl rfl rfl rfl rfl ?_
                refine g_v rfl (r_move) ?_
                refine g_do rfl rfl rfl rfl rfl rfl ?_
                refine g_v rfl (r_move) ?_
                refine g_if rfl rfl rfl rfl rfl (fun h92 => ?_) (fun h92 => ?_)
                · skip
                  refine g_v rfl (r_move) ?_
                  refine g_do rfl rfl rfl rfl rfl rfl ?_
                  refine g_v rfl (r_pick0 rfl h92) ?_
                  refine g_v rfl (r_pick1 rfl rfl) ?_
                  refine g_v rfl (r_move) ?_
                  refine g_if rfl rfl rfl rfl rfl (fun h96 => ?_) (fun h96 => ?_)
                  · skip
                    refine g_v rfl (r_move) ?_
                    refine g_do rfl rfl rfl rfl rfl h96 ?_
                    refine g_v rfl (r_move) ?_
                    refine g_no rfl rfl rfl rfl rfl h92 ?_
                    refine g_do rfl rfl rfl rfl rfl h96 ?_
                    refine g_v rfl (r_pick0 rfl h92) ?_
                    refine g_do rfl rfl rfl rfl rfl h96 ?_
                    refine g_v rfl (r_move) ?_
                    refine g_do rfl rfl rfl rfl rfl h96 ?_
                    refine g_v rfl (r_eqlB Try.underlying4 rfl rfl) ?_
                    refine g_v rfl (r_pick1 rfl h96) ?_
                    refine g_v rfl (r_move) ?_
                    refine g_if rfl rfl rfl rfl rfl (fun h104 => ?_) (fun h104 => ?_)
                    · skip
                      refine g_v rfl (r_move) ?_
                      refine g_do rfl rfl rfl rfl rfl h104 ?_
                      refine g_v rfl (r_not rfl) ?_
                      refine g_do rfl rfl rfl rfl rfl h104 ?_
                      refine g_v rfl (r_move) ?_
                      refine g_no rfl rfl rfl rfl rfl (by rw [h92] <;> rfl) ?_
                      refine g_no rfl rfl rfl rfl rfl (by rw [h92] <;> rfl) ?_
                      refine g_do rfl rfl rfl rfl rfl h104 ?_
                      refine g_v rfl (r_pick1 rfl (by rw [h92] <;> rfl)) ?_
                      refine g_do rfl rfl rfl rfl rfl h104 ?_
                      refine g_v rfl (r_move) ?_
                      refine g_no rfl rfl rfl rfl rfl rfl ?_
                      refine g_do rfl rfl rfl rfl rfl h104 ?_
                      refine g_v rfl (r_pick1 rfl rfl) ?_
                      refine g_v rfl (r_pick1 rfl h104) ?_
                      refine g_v rfl (r_assign) ?_
                      refine g_nil ?_
                      refine d_then ?_
                      refine c_flat [(6, .bool _)] ⟨rfl, trivial⟩ (fun u => ?_)
                      refine c_sta ⟨w, M, [(8, _, .cells #[.int .i64 _, .int .i64 _, .slice _ _ _, .int .i64 _, .int .i64 _, .slice _ _ _, .int .i64 _, .int .i64 _, .slice _ _ _] _ _), (4, _, .cells #[.int .i64 _, .int .i64 _, .int .i64 _] _ _), (3, _, .cells #[.int .i64 _, .int .i64 _, .int .i64 _] _ _)], _, _⟩ (fun _ h => h) ?_
                      refine c_ret ?_
                      refine d_retR () Try.results3 ?_ trivial (fun _ _ => trivial) (.inr rfl)
                      refine res_tmp ?_
                      refine res_nil ?_
                      first | exact rfl | exact congrArg Value.bool (decide_eq_true (by revert h82 h92 h96 h104; simp only [Bool.not_true, Bool.not_false, beq_iff_eq, beq_eq_false_iff_ne, ne_eq, decide_eq_decide, false_eq_decide_iff, true_eq_decide_iff, decide_eq_true_eq, decide_eq_false_iff_not, Bool.not_eq_true', Bool.not_eq_false', eq_self, not_true_eq_false, not_false_eq_true, false_implies, true_implies, implies_true, Bool.true_eq_false, Bool.false_eq_true] <;> omega)) | (exfalso; revert h82 h92 h96 h104; simp only [Bool.not_true, Bool.not_false, beq_iff_eq, beq_eq_false_iff_ne, ne_eq, decide_eq_decide, false_eq_decide_iff, true_eq_decide_iff, decide_eq_true_eq, decide_eq_false_iff_not, Bool.not_eq_true', Bool.not_eq_false', eq_self, not_true_eq_false, not_false_eq_true, false_implies, true_implies, implies_true, Bool.true_eq_false, Bool.false_eq_true] <;> omega)
                    · skip
                      refine g_no rfl rfl rfl rfl rfl h104 ?_
                      refine g_no rfl rfl rfl rfl rfl h104 ?_
                      refine g_nu rfl rfl rfl rfl rfl ?_
                      refine g_nu rfl rfl rfl rfl rfl ?_
                      refine g_no rfl rfl rfl rfl rfl h104 ?_
                      refine g_no rfl rfl rfl rfl rfl h104 ?_
                      refine g_nu rfl rfl rfl rfl rfl ?_
                      refine g_no rfl rfl rfl rfl rfl h104 ?_
                      refine g_v rfl (r_pick0 rfl h104) ?_
                      refine g_v rfl (r_assign) ?_
                      refine g_nil ?_
                      refine d_then ?_
                      refine c_flat [(6, .bool _)] ⟨rfl, trivial⟩ (fun u => ?_)
                      refine c_sta ⟨w, M, [(8, _, .cells #[.int .i64 _, .int .i64 _, .slice _ _ _, .int .i64 _, .int .i64 _, .slice _ _ _, .int .i64 _, .int .i64 _, .slice _ _ _] _ _), (4, _, .cells #[.int .i64 _, .int .i64 _, .int .i64 _] _ _), (3, _, .cells #[.int .i64 _, .int .i64 _, .int .i64 _] _ _)], _, _⟩ (fun _ h => h) ?_
                      refine c_ret ?_
                      refine d_retR () Try.results3 ?_ trivial (fun _ _ => trivial) (.inr rfl)
                      refine res_tmp ?_
                      refine res_nil ?_
                      first | exact rfl | exact congrArg Value.bool (decide_eq_true (by revert h82 h92 h96 h104; simp only [Bool.not_true, Bool.not_false, beq_iff_eq, beq_eq_false_iff_ne, ne_eq, decide_eq_decide, false_eq_decide_iff, true_eq_decide_iff, decide_eq_true_eq, decide_eq_false_iff_not, Bool.not_eq_true', Bool.not_eq_false', eq_self, not_true_eq_false, not_false_eq_true, false_implies, true_implies, implies_true, Bool.true_eq_false, Bool.false_eq_true] <;> omega)) | (exfalso; revert h82 h92 h96 h104; simp only [Bool.not_true, Bool.not_false, beq_iff_eq, beq_eq_false_iff_ne, ne_eq, decide_eq_decide, false_eq_decide_iff, true_eq_decide_iff, decide_eq_true_eq, decide_eq_false_iff_not, Bool.not_eq_true', Bool.not_eq_false', eq_self, not_true_eq_false, not_false_eq_true, false_implies, true_implies, implies_true, Bool.true_eq_false, Bool.false_eq_true] <;> omega)
                  · skip
                    refine g_no rfl rfl rfl rfl rfl h96 ?_
                    refine g_nu rfl rfl rfl rfl rfl ?_
                    refine g_no rfl rfl rfl rfl rfl h96 ?_
                    refine g_no rfl rfl rfl rfl rfl h96 ?_
                    refine g_no rfl rfl rfl rfl rfl h96 ?_
                    refine g_v rfl (r_pick0 rfl h96) ?_
                    refine g_v rfl (r_move) ?_
                    refine g_no rfl rfl rfl rfl rfl rfl ?_
                    refine g_no rfl rfl rfl rfl rfl rfl ?_
                    refine g_no rfl rfl rfl rfl rfl rfl ?_
                    refine g_nu rfl rfl rfl rfl rfl ?_
                    refine g_nu rfl rfl rfl rfl rfl ?_
                    refine g_no rfl rfl rfl rfl rfl rfl ?_
                    refine g_no rfl rfl rfl rfl rfl rfl ?_
                    refine g_nu rfl rfl rfl rfl rfl ?_
                    refine g_no rfl rfl rfl rfl rfl rfl ?_
                    refine g_v rfl (r_pick0 rfl rfl) ?_
                    refine g_v rfl (r_assign) ?_
                    refine g_nil ?_
                    refine d_then ?_
                    refine c_flat [(6, .bool _)] ⟨rfl, trivial⟩ (fun u => ?_)
                    refine c_sta ⟨w, M, [(8, _, .cells #[.int .i64 _, .int .i64 _, .slice _ _ _, .int .i64 _, .int .i64 _, .slice _ _ _, .int .i64 _, .int .i64 _, .slice _ _ _] _ _), (4, _, .cells #[.int .i64 _, .int .i64 _, .int .i64 _] _ _), (3, _, .cells #[.int .i64 _, .int .i64 _, .int .i64 _] _ _)], _, _⟩ (fun _ h => h) ?_
                    refine c_ret ?_
                    refine d_retR () Try.results3 ?_ trivial (fun _ _ => trivial) (.inr rfl)
                    refine res_tmp ?_
                    refine res_nil ?_
                    first | exact rfl | exact congrArg Value.bool (decide_eq_true (by revert h82 h92 h96; simp only [Bool.not_true, Bool.not_false, beq_iff_eq, beq_eq_false_iff_ne, ne_eq, decide_eq_decide, false_eq_decide_iff, true_eq_decide_iff, decide_eq_true_eq, decide_eq_false_iff_not, Bool.not_eq_true', Bool.not_eq_false', eq_self, not_true_eq_false, not_false_eq_true, false_implies, true_implies, implies_true, Bool.true_eq_false, Bool.false_eq_true] <;> omega)) | (exfalso; revert h82 h92 h96; simp only [Bool.not_true, Bool.not_false, beq_iff_eq, beq_eq_false_iff_ne, ne_eq, decide_eq_decide, false_eq_decide_iff, true_eq_decide_iff, decide_eq_true_eq, decide_eq_false_iff_not, Bool.not_eq_true', Bool.not_eq_false', eq_self, not_true_eq_false, not_false_eq_true, false_implies, true_implies, implies_true, Bool.true_eq_false, Bool.false_eq_true] <;> omega)
                · skip
                  refine g_do rfl rfl rfl rfl rfl rfl ?_
                  refine g_v rfl (r_pick1 rfl h92) ?_
                  refine g_v rfl (r_pick1 rfl rfl) ?_
                  refine g_v rfl (r_move) ?_
                  refine g_do rfl rfl rfl rfl rfl rfl ?_
                  refine g_v rfl (r_move) ?_
                  refine g_do rfl rfl rfl rfl rfl rfl ?_
                  refine g_v rfl (r_move) ?_
                  refine g_do rfl rfl rfl rfl rfl h92 ?_
                  refine g_v rfl (r_move) ?_
                  refine g_do rfl rfl rfl rfl rfl rfl ?_
                  refine g_v rfl (r_pick1 rfl h92) ?_
                  refine g_do rfl rfl rfl rfl rfl rfl ?_
                  refine g_v rfl (r_move) ?_
                  refine g_do rfl rfl rfl rfl rfl rfl ?_
                  refine g_v rfl (r_eqlB Try.underlying4 rfl rfl) ?_
                  refine g_v rfl (r_pick1 rfl rfl) ?_
                  refine g_v rfl (r_move) ?_
                  refine g_if rfl rfl rfl rfl rfl (fun h104 => ?_) (fun h104 => ?_)
                  · skip
                    refine g_v rfl (r_move) ?_
                    refine g_do rfl rfl rfl rfl rfl h104 ?_
                    refine g_v rfl (r_not rfl) ?_
                    refine g_do rfl rfl rfl rfl rfl h104 ?_
                    refine g_v rfl (r_move) ?_
                    refine g_do rfl rfl rfl rfl rfl (by rw [h92] <;> rfl) ?_
                    refine g_v rfl (r_move) ?_
                    refine g_do rfl rfl rfl rfl rfl (by rw [h92] <;> rfl) ?_
                    refine g_v rfl (r_not rfl) ?_
                    refine g_do rfl rfl rfl rfl rfl h104 ?_
                    refine g_v rfl (r_pick0 rfl (by rw [h92] <;> rfl)) ?_
                    refine g_do rfl rfl rfl rfl rfl h104 ?_
                    refine g_v rfl (r_move) ?_
                    refine g_if rfl rfl rfl rfl rfl (fun h111 => ?_) (fun h111 => ?_)
                    · skip
                      refine g_v rfl (r_move) ?_
                      refine g_do rfl rfl rfl rfl rfl h104 ?_
                      refine g_v rfl (r_pick0 rfl h111) ?_
                      refine g_v rfl (r_pick1 rfl h104) ?_
                      refine g_v rfl (r_assign) ?_
                      refine g_nil ?_
                      refine d_then ?_
                      refine c_flat [(6, .bool _)] ⟨rfl, trivial⟩ (fun u => ?_)
                      refine c_sta ⟨w, M, [(8, _, .cells #[.int .i64 _, .int .i64 _, .slice _ _ _, .int .i64 _, .int .i64 _, .slice _ _ _, .int .i64 _, .int .i64 _, .slice _ _ _] _ _), (4, _, .cells #[.int .i64 _, .int .i64 _, .int .i64 _] _ _), (3, _, .cells #[.int .i64 _, .int .i64 _, .int .i64 _] _ _)], _, _⟩ (fun _ h => h) ?_
                      refine c_ret ?_
                      refine d_retR () Try.results3 ?_ trivial (fun _ _ => trivial) (.inr rfl)
                      refine res_tmp ?_
                      refine res_nil ?_
                      first | exact rfl | exact congrArg Value.bool (decide_eq_true (by revert h82 h92 h104 h111; simp only [Bool.not_true, Bool.not_false, beq_iff_eq, beq_eq_false_iff_ne, ne_eq, decide_eq_decide, false_eq_decide_iff, true_eq_decide_iff, decide_eq_true_eq, decide_eq_false_iff_not, Bool.not_eq_true', Bool.not_eq_false', eq_self, not_true_eq_false, not_false_eq_true, false_implies, true_implies, implies_true, Bool.true_eq_false, Bool.false_eq_true] <;> omega)) | (exfalso; revert h82 h92 h104 h111; simp only [Bool.not_true, Bool.not_false, beq_iff_eq, beq_eq_false_iff_ne, ne_eq, decide_eq_decide, false_eq_decide_iff, true_eq_decide_iff, decide_eq_true_eq, decide_eq_false_iff_not, Bool.not_eq_true', Bool.not_eq_false', eq_self, not_true_eq_false, not_false_eq_true, false_implies, true_implies, implies_true, Bool.true_eq_false, Bool.false_eq_true] <;> omega)
                    · skip
                      refine g_do rfl rfl rfl rfl rfl h104 ?_
                      refine g_v rfl (r_pick1 rfl h111) ?_
                      refine g_v rfl (r_pick1 rfl h104) ?_
                      refine g_v rfl (r_assign) ?_
                      refine g_nil ?_
                      refine d_then ?_
                      refine c_flat [(6, .bool _)] ⟨rfl, trivial⟩ (fun u => ?_)
                      refine c_sta ⟨w, M, [(8, _, .cells #[.int .i64 _, .int .i64 _, .slice _ _ _, .int .i64 _, .int .i64 _, .slice _ _ _, .int .i64 _, .int .i64 _, .slice _ _ _] _ _), (4, _, .cells #[.int .i64 _, .int .i64 _, .int .i64 _] _ _), (3, _, .cells #[.int .i64 _, .int .i64 _, .int .i64 _] _ _)], _, _⟩ (fun _ h => h) ?_
                      refine c_ret ?_
                      refine d_retR () Try.results3 ?_ trivial (fun _ _ => trivial) (.inr rfl)
                      refine res_tmp ?_
                      refine res_nil ?_
                      first | exact rfl | exact congrArg Value.bool (decide_eq_true (by revert h82 h92 h104 h111; simp only [Bool.not_true, Bool.not_false, beq_iff_eq, beq_eq_false_iff_ne, ne_eq, decide_eq_decide, false_eq_decide_iff, true_eq_decide_iff, decide_eq_true_eq, decide_eq_false_iff_not, Bool.not_eq_true', Bool.not_eq_false', eq_self, not_true_eq_false, not_false_eq_true, false_implies, true_implies, implies_true, Bool.true_eq_false, Bool.false_eq_true] <;> omega)) | (exfalso; revert h82 h92 h104 h111; simp only [Bool.not_true, Bool.not_false, beq_iff_eq, beq_eq_false_iff_ne, ne_eq, decide_eq_decide, false_eq_decide_iff, true_eq_decide_iff, decide_eq_true_eq, decide_eq_false_iff_not, Bool.not_eq_true', Bool.not_eq_false', eq_self, not_true_eq_false, not_false_eq_true, false_implies, true_implies, implies_true, Bool.true_eq_false, Bool.false_eq_true] <;> omega)
                  · skip
                    refine g_no rfl rfl rfl rfl rfl h104 ?_
                    refine g_no rfl rfl rfl rfl rfl h104 ?_
                    refine g_nu rfl rfl rfl rfl rfl ?_
                    refine g_nu rfl rfl rfl rfl rfl ?_
                    refine g_no rfl rfl rfl rfl rfl h104 ?_
                    refine g_no rfl rfl rfl rfl rfl h104 ?_
                    refine g_nu rfl rfl rfl rfl rfl ?_
                    refine g_no rfl rfl rfl rfl rfl h104 ?_
                    refine g_v rfl (r_pick0 rfl h104) ?_
                    refine g_v rfl (r_assign) ?_
                    refine g_nil ?_
                    refine d_then ?_
                    refine c_flat [(6, .bool _)] ⟨rfl, trivial⟩ (fun u => ?_)
                    refine c_sta ⟨w, M, [(8, _, .cells #[.int .i64 _, .int .i64 _, .slice _ _ _, .int .i64 _, .int .i64 _, .slice _ _ _, .int .i64 _, .int .i64 _, .slice _ _ _] _ _), (4, _, .cells #[.int .i64 _, .int .i64 _, .int .i64 _] _ _), (3, _, .cells #[.int .i64 _, .int .i64 _, .int .i64 _] _ _)], _, _⟩ (fun _ h => h) ?_
                    refine c_ret ?_
                    refine d_retR () Try.results3 ?_ trivial (fun _ _ => trivial) (.inr rfl)
                    refine res_tmp ?_
                    refine res_nil ?_
                    first | exact rfl | exact congrArg Value.bool (decide_eq_true (by revert h82 h92 h104; simp only [Bool.not_true, Bool.not_false, beq_iff_eq, beq_eq_false_iff_ne, ne_eq, decide_eq_decide, false_eq_decide_iff, true_eq_decide_iff, decide_eq_true_eq, decide_eq_false_iff_not, Bool.not_eq_true', Bool.not_eq_false', eq_self, not_true_eq_false, not_false_eq_true, false_implies, true_implies, implies_true, Bool.true_eq_false, Bool.false_eq_true] <;> omega)) | (exfalso; revert h82 h92 h104; simp only [Bool.not_true, Bool.not_false, beq_iff_eq, beq_eq_false_iff_ne, ne_eq, decide_eq_decide, false_eq_decide_iff, true_eq_decide_iff, decide_eq_true_eq, decide_eq_false_iff_not, Bool.not_eq_true', Bool.not_eq_false', eq_self, not_true_eq_false, not_false_eq_true, false_implies, true_implies, implies_true, Bool.true_eq_false, Bool.false_eq_true] <;> omega)
              · skip
                refine g_no rfl rfl rfl rfl rfl h82 ?_
                refine g_no rfl rfl rfl rfl rfl h82 ?_
                refine g_no rfl rfl rfl rfl rfl h82 ?_
                refine g_no rfl rfl rfl rfl rfl h82 ?_
                refine g_v rfl (r_pick0 rfl h82) ?_
                refine g_v rfl (r_assign) ?_
                refine g_nil ?_
                refine d_then ?_
                refine c_flat [(7, .bool _), (12, .bool _), (13, .bool _), (14, .bool _), (15, .bool _), (16, .bool _)] ⟨rfl, rfl, rfl, rfl, rfl, rfl, trivial⟩ (fun u => ?_)
                refine c_sta ⟨w, M, [(8, _, .cells #[.int .i64 _, .int .i64 _, .slice _ _ _, .int .i64 _, .int .i64 _, .slice _ _ _, .int .i64 _, .int .i64 _, .slice _ _ _] _ _), (4, _, .cells #[.int .i64 _, .int .i64 _, .int .i64 _] _ _), (3, _, .cells #[.int .i64 _, .int .i64 _, .int .i64 _] _ _)], _, _⟩ (fun _ h => h) ?_
                refine c_seq ?_
                refine c_region ?_
                refine g_v rfl (r_move) ?_
                refine g_v rfl (r_move) ?_
                refine g_do rfl rfl rfl rfl rfl rfl ?_
                refine g_v rfl (r_move) ?_
                refine g_do rfl rfl rfl rfl rfl rfl ?_
                refine g_v rfl (r_move) ?_
                refine g_if rfl rfl rfl rfl rfl (fun h92 => ?_) (fun h92 => ?_)
                · skip
                  refine g_v rfl (r_move) ?_
                  refine g_do rfl rfl rfl rfl rfl rfl ?_
                  refine g_v rfl (r_pick0 rfl h92) ?_
                  refine g_v rfl (r_pick1 rfl rfl) ?_
                  refine g_v rfl (r_move) ?_
                  refine g_if rfl rfl rfl rfl rfl (fun h96 => ?_) (fun h96 => ?_)
                  · skip
                    refine g_v rfl (r_move) ?_
                    refine g_do rfl rfl rfl rfl rfl h96 ?_
                    refine g_v rfl (r_move) ?_
                    refine g_no rfl rfl rfl rfl rfl h92 ?_
                    refine g_do rfl rfl rfl rfl rfl h96 ?_
                    refine g_v rfl (r_pick0 rfl h92) ?_
                    refine g_do rfl rfl rfl rfl rfl h96 ?_
                    refine g_v rfl (r_move) ?_
                    refine g_do rfl rfl rfl rfl rfl h96 ?_
                    refine g_v rfl (r_eqlB Try.underlying4 rfl rfl) ?_
                    refine g_v rfl (r_pick1 rfl h96) ?_
                    refine g_v rfl (r_move) ?_
                    refine g_if rfl rfl rfl rfl rfl (fun h104 => ?_) (fun h104 => ?_)
                    · skip
                      refine g_v rfl (r_move) ?_
                      refine g_do rfl rfl rfl rfl rfl h104 ?_
                      refine g_v rfl (r_not rfl) ?_
                      refine g_do rfl rfl rfl rfl rfl h104 ?_
                      refine g_v rfl (r_move) ?_
                      refine g_no rfl rfl rfl rfl rfl (by rw [h92] <;> rfl) ?_
                      refine g_no rfl rfl rfl rfl rfl (by rw [h92] <;> rfl) ?_
                      refine g_do rfl rfl rfl rfl rfl h104 ?_
                      refine g_v rfl (r_pick1 rfl (by rw [h92] <;> rfl)) ?_
                      refine g_do rfl rfl rfl rfl rfl h104 ?_
                      refine g_v rfl (r_move) ?_
                      refine g_no rfl rfl rfl rfl rfl rfl ?_
                      refine g_do rfl rfl rfl rfl rfl h104 ?_
                      refine g_v rfl (r_pick1 rfl rfl) ?_
                      refine g_v rfl (r_pick1 rfl h104) ?_
                      refine g_v rfl (r_assign) ?_
                      refine g_nil ?_
                      refine d_then ?_
                      refine c_flat [(6, .bool _)] ⟨rfl, trivial⟩ (fun u => ?_)
                      refine c_sta ⟨w, M, [(8, _, .cells #[.int .i64 _, .int .i64 _, .slice _ _ _, .int .i64 _, .int .i64 _, .slice _ _ _, .int .i64 _, .int .i64 _, .slice _ _ _] _ _), (4, _, .cells #[.int .i64 _, .int .i64 _, .int .i64 _] _ _), (3, _, .cells #[.int .i64 _, .int .i64 _, .int .i64 _] _ _)], _, _⟩ (fun _ h => h) ?_
                      refine c_ret ?_
                      refine d_retR () Try.results3 ?_ trivial (fun _ _ => trivial) (.inr rfl)
                      refine res_tmp ?_
                      refine res_nil ?_
                      first | exact rfl | exact congrArg Value.bool (decide_eq_true (by revert h82 h92 h96 h104; simp only [Bool.not_true, Bool.not_false, beq_iff_eq, beq_eq_false_iff_ne, ne_eq, decide_eq_decide, false_eq_decide_iff, true_eq_decide_iff, decide_eq_true_eq, decide_eq_false_iff_not, Bool.not_eq_true', Bool.not_eq_false', eq_self, not_true_eq_false, not_false_eq_true, false_implies, true_implies, implies_true, Bool.true_eq_false, Bool.false_eq_true] <;> omega)) | (exfalso; revert h82 h92 h96 h104; simp only [Bool.not_true, Bool.not_false, beq_iff_eq, beq_eq_false_iff_ne, ne_eq, decide_eq_decide, false_eq_decide_iff, true_eq_decide_iff, decide_eq_true_eq, decide_eq_false_iff_not, Bool.not_eq_true', Bool.not_eq_false', eq_self, not_true_eq_false, not_false_eq_true, false_implies, true_implies, implies_true, Bool.true_eq_false, Bool.false_eq_true] <;> omega)
                    · skip
                      refine g_no rfl rfl rfl rfl rfl h104 ?_
                      refine g_no rfl rfl rfl rfl rfl h104 ?_
                      refine g_nu rfl rfl rfl rfl rfl ?_
                      refine g_nu rfl rfl rfl rfl rfl ?_
                      refine g_no rfl rfl rfl rfl rfl h104 ?_
                      refine g_no rfl rfl rfl rfl rfl h104 ?_
                      refine g_nu rfl rfl rfl rfl rfl ?_
                      refine g_no rfl rfl rfl rfl rfl h104 ?_
                      refine g_v rfl (r_pick0 rfl h104) ?_
                      refine g_v rfl (r_assign) ?_
                      refine g_nil ?_
                      refine d_then ?_
                      refine c_flat [(6, .bool _)] ⟨rfl, trivial⟩ (fun u => ?_)
                      refine c_sta ⟨w, M, [(8, _, .cells #[.int .i64 _, .int .i64 _, .slice _ _ _, .int .i64 _, .int .i64 _, .slice _ _ _, .int .i64 _, .int .i64 _, .slice _ _ _] _ _), (4, _, .cells #[.int .i64 _, .int .i64 _, .int .i64 _] _ _), (3, _, .cells #[.int .i64 _, .int .i64 _, .int .i64 _] _ _)], _, _⟩ (fun _ h => h) ?_
                      refine c_ret ?_
                      refine d_retR () Try.results3 ?_ trivial (fun _ _ => trivial) (.inr rfl)
                      refine res_tmp ?_
                      refine res_nil ?_
                      first | exact rfl | exact congrArg Value.bool (decide_eq_true (by revert h82 h92 h96 h104; simp only [Bool.not_true, Bool.not_false, beq_iff_eq, beq_eq_false_iff_ne, ne_eq, decide_eq_decide, false_eq_decide_iff, true_eq_decide_iff, decide_eq_true_eq, decide_eq_false_iff_not, Bool.not_eq_true', Bool.not_eq_false', eq_self, not_true_eq_false, not_false_eq_true, false_implies, true_implies, implies_true, Bool.true_eq_false, Bool.false_eq_true] <;> omega)) | (exfalso; revert h82 h92 h96 h104; simp only [Bool.not_true, Bool.not_false, beq_iff_eq, beq_eq_false_iff_ne, ne_eq, decide_eq_decide, false_eq_decide_iff, true_eq_decide_iff, decide_eq_true_eq, decide_eq_false_iff_not, Bool.not_eq_true', Bool.not_eq_false', eq_self, not_true_eq_false, not_false_eq_true, false_implies, true_implies, implies_true, Bool.true_eq_false, Bool.false_eq_true] <;> omega)
                  · skip
                    refine g_no rfl rfl rfl rfl rfl h96 ?_
                    refine g_nu rfl rfl rfl rfl rfl ?_
                    refine g_no rfl rfl rfl rfl rfl h96 ?_
                    refine g_no rfl rfl rfl rfl rfl h96 ?_
                    refine g_no rfl rfl rfl rfl rfl h96 ?_
                    refine g_v rfl (r_pick0 rfl h96) ?_
                    refine g_v rfl (r_move) ?_
                    refine g_no rfl rfl rfl rfl rfl rfl ?_
                    refine g_no rfl rfl rfl rfl rfl rfl ?_
                    refine g_no rfl rfl rfl rfl rfl rfl ?_
                    refine g_nu rfl rfl rfl rfl rfl ?_
                    refine g_nu rfl rfl rfl rfl rfl ?_
                    refine g_no rfl rfl rfl rfl rfl rfl ?_
                    refine g_no rfl rfl rfl rfl rfl rfl ?_
                    refine g_nu rfl rfl rfl rfl rfl ?_
                    refine g_no rfl rfl rfl rfl rfl rfl ?_
                    refine g_v rfl (r_pick0 rfl rfl) ?_
                    refine g_v rfl (r_assign) ?_
                    refine g_nil ?_
                    refine d_then ?_
                    refine c_flat [(6, .bool _)] ⟨rfl, trivial⟩ (fun u => ?_)
                    refine c_sta ⟨w, M, [(8, _, .cells #[.int .i64 _, .int .i64 _, .slice _ _ _, .int .i64 _, .int .i64 _, .slice _ _ _, .int .i64 _, .int .i64 _, .slice _ _ _] _ _), (4, _, .cells #[.int .i64 _, .int .i64 _, .int .i64 _] _ _), (3, _, .cells #[.int .i64 _, .int .i64 _, .int .i64 _] _ _)], _, _⟩ (fun _ h => h) ?_
                    refine c_ret ?_
                    refine d_retR () Try.results3 ?_ trivial (fun _ _ => trivial) (.inr rfl)
                    refine res_tmp ?_
                    refine res_nil ?_
                    first | exact rfl | exact congrArg Value.bool (decide_eq_true (by revert h82 h92 h96; simp only [Bool.not_true, Bool.not_false, beq_iff_eq, beq_eq_false_iff_ne, ne_eq, decide_eq_decide, false_eq_decide_iff, true_eq_decide_iff, decide_eq_true_eq, decide_eq_false_iff_not, Bool.not_eq_true', Bool.not_eq_false', eq_self, not_true_eq_false, not_false_eq_true, false_implies, true_implies, implies_true, Bool.true_eq_false, Bool.false_eq_true] <;> omega)) | (exfalso; revert h82 h92 h96; simp only [Bool.not_true, Bool.not_false, beq_iff_eq, beq_eq_false_iff_ne, ne_eq, decide_eq_decide, false_eq_decide_iff, true_eq_decide_iff, decide_eq_true_eq, decide_eq_false_iff_not, Bool.not_eq_true', Bool.not_eq_false', eq_self, not_true_eq_false, not_false_eq_true, false_implies, true_implies, implies_true, Bool.true_eq_false, Bool.false_eq_true] <;> omega)
                · skip
                  refine g_do rfl rfl rfl rfl rfl rfl ?_
                  refine g_v rfl (r_pick1 rfl h92) ?_
                  refine g_v rfl (r_pick1 rfl rfl) ?_
                  refine g_v rfl (r_move) ?_
                  refine g_do rfl rfl rfl rfl rfl rfl ?_
                  refine g_v rfl (r_move) ?_
                  refine g_do rfl rfl rfl rfl rfl rfl ?_
                  refine g_v rfl (r_move) ?_
                  refine g_do rfl rfl rfl rfl rfl h92 ?_
                  refine g_v rfl (r_move) ?_
                  refine g_do rfl rfl rfl rfl rfl rfl ?_
                  refine g_v rfl (r_pick1 rfl h92) ?_
                  refine g_do rfl rfl rfl rfl rfl rfl ?_
                  refine g_v rfl (r_move) ?_
                  refine g_do rfl rfl rfl rfl rfl rfl ?_
                  refine g_v rfl (r_eqlB Try.underlying4 rfl rfl) ?_
                  refine g_v rfl (r_pick1 rfl rfl) ?_
                  refine g_v rfl (r_move) ?_
                  refine g_if rfl rfl rfl rfl rfl (fun h104 => ?_) (fun h104 => ?_)
                  · skip
                    refine g_v rfl (r_move) ?_
                    refine g_do rfl rfl rfl rfl rfl h104 ?_
                    refine g_v rfl (r_not rfl) ?_
                    refine g_do rfl rfl rfl rfl rfl h104 ?_
                    refine g_v rfl (r_move) ?_
                    refine g_do rfl rfl rfl rfl rfl (by rw [h92] <;> rfl) ?_
                    refine g_v rfl (r_move) ?_
                    refine g_do rfl rfl rfl rfl rfl (by rw [h92] <;> rfl) ?_
                    refine g_v rfl (r_not rfl) ?_
                    refine g_do rfl rfl rfl rfl rfl h104 ?_
                    refine g_v rfl (r_pick0 rfl (by rw [h92] <;> rfl)) ?_
                    refine g_do rfl rfl rfl rfl rfl h104 ?_
                    refine g_v rfl (r_move) ?_
                    refine g_if rfl rfl rfl rfl rfl (fun h111 => ?_) (fun h111 => ?_)
                    · skip
                      refine g_v rfl (r_move) ?_
                      refine g_do rfl rfl rfl rfl rfl h104 ?_
                      refine g_v rfl (r_pick0 rfl h111) ?_
                      refine g_v rfl (r_pick1 rfl h104) ?_
                      refine g_v rfl (r_assign) ?_
                      refine g_nil ?_
                      refine d_then ?_
                      refine c_flat [(6, .bool _)] ⟨rfl, trivial⟩ (fun u => ?_)
                      refine c_sta ⟨w, M, [(8, _, .cells #[.int .i64 _, .int .i64 _, .slice _ _ _, .int .i64 _, .int .i64 _, .slice _ _ _, .int .i64 _, .int .i64 _, .slice _ _ _] _ _), (4, _, .cells #[.int .i64 _, .int .i64 _, .int .i64 _] _ _), (3, _, .cells #[.int .i64 _, .int .i64 _, .int .i64 _] _ _)], _, _⟩ (fun _ h => h) ?_
                      refine c_ret ?_
                      refine d_retR () Try.results3 ?_ trivial (fun _ _ => trivial) (.inr rfl)
                      refine res_tmp ?_
                      refine res_nil ?_
                      first | exact rfl | exact congrArg Value.bool (decide_eq_true (by revert h82 h92 h104 h111; simp only [Bool.not_true, Bool.not_false, beq_iff_eq, beq_eq_false_iff_ne, ne_eq, decide_eq_decide, false_eq_decide_iff, true_eq_decide_iff, decide_eq_true_eq, decide_eq_false_iff_not, Bool.not_eq_true', Bool.not_eq_false', eq_self, not_true_eq_false, not_false_eq_true, false_implies, true_implies, implies_true, Bool.true_eq_false, Bool.false_eq_true] <;> omega)) | (exfalso; revert h82 h92 h104 h111; simp only [Bool.not_true, Bool.not_false, beq_iff_eq, beq_eq_false_iff_ne, ne_eq, decide_eq_decide, false_eq_decide_iff, true_eq_decide_iff, decide_eq_true_eq, decide_eq_false_iff_not, Bool.not_eq_true', Bool.not_eq_false', eq_self, not_true_eq_false, not_false_eq_true, false_implies, true_implies, implies_true, Bool.true_eq_false, Bool.false_eq_true] <;> omega)
                    · skip
                      refine g_do rfl rfl rfl rfl rfl h104 ?_
                      refine g_v rfl (r_pick1 rfl h111) ?_
                      refine g_v rfl (r_pick1 rfl h104) ?_
                      refine g_v rfl (r_assign) ?_
                      refine g_nil ?_
                      refine d_then ?_
                      refine c_flat [(6, .bool _)] ⟨rfl, trivial⟩ (fun u => ?_)
                      refine c_sta ⟨w, M, [(8, _, .cells #[.int .i64 _, .int .i64 _, .slice _ _ _, .int .i64 _, .int .i64 _, .slice _ _ _, .int .i64 _, .int .i64 _, .slice _ _ _] _ _), (4, _, .cells #[.int .i64 _, .int .i64 _, .int .i64 _] _ _), (3, _, .cells #[.int .i64 _, .int .i64 _, .int .i64 _] _ _)], _, _⟩ (fun _ h => h) ?_
                      refine c_ret ?_
                      refine d_retR () Try.results3 ?_ trivial (fun _ _ => trivial) (.inr rfl)
                      refine res_tmp ?_
                      refine res_nil ?_
                      first | exact rfl | exact congrArg Value.bool (decide_eq_true (by revert h82 h92 h104 h111; simp only [Bool.not_true, Bool.not_false, beq_iff_eq, beq_eq_false_iff_ne, ne_eq, decide_eq_decide, false_eq_decide_iff, true_eq_decide_iff, decide_eq_true_eq, decide_eq_false_iff_not, Bool.not_eq_true', Bool.not_eq_false', eq_self, not_true_eq_false, not_false_eq_true, false_implies, true_implies, implies_true, Bool.true_eq_false, Bool.false_eq_true] <;> omega)) | (exfalso; revert h82 h92 h104 h111; simp only [Bool.not_true, Bool.not_false, beq_iff_eq, beq_eq_false_iff_ne, ne_eq, decide_eq_decide, false_eq_decide_iff, true_eq_decide_iff, decide_eq_true_eq, decide_eq_false_iff_not, Bool.not_eq_true', Bool.not_eq_false', eq_self, not_true_eq_false, not_false_eq_true, false_implies, true_implies, implies_true, Bool.true_eq_false, Bool.false_eq_true] <;> omega)
                  · skip
                    refine g_no rfl rfl rfl rfl rfl h104 ?_
                    refine g_no rfl rfl rfl rfl rfl h104 ?_
                    refine g_nu rfl rfl rfl rfl rfl ?_
                    refine g_nu rfl rfl rfl rfl rfl ?_
                    refine g_no rfl rfl rfl rfl rfl h104 ?_
                    refine g_no rfl rfl rfl rfl rfl h104 ?_
                    refine g_nu rfl rfl rfl rfl rfl ?_
                    refine g_no rfl rfl rfl rfl rfl h104 ?_
                    refine g_v rfl (r_pick0 rfl h104) ?_
                    refine g_v rfl (r_assign) ?_
                    refine g_nil ?_
                    refine d_then ?_
                    refine c_flat [(6, .bool _)] ⟨rfl, trivial⟩ (fun u => ?_)
                    refine c_sta ⟨w, M, [(8, _, .cells #[.int .i64 _, .int .i64 _, .slice _ _ _, .int .i64 _, .int .i64 _, .slice _ _ _, .int .i64 _, .int .i64 _, .slice _ _ _] _ _), (4, _, .cells #[.int .i64 _, .int .i64 _, .int .i64 _] _ _), (3, _, .cells #[.int .i64 _, .int .i64 _, .int .i64 _] _ _)], _, _⟩ (fun _ h => h) ?_
                    refine c_ret ?_
                    refine d_retR () Try.results3 ?_ trivial (fun _ _ => trivial) (.inr rfl)
                    refine res_tmp ?_
                    refine res_nil ?_
                    first | exact rfl | exact congrArg Value.bool (decide_eq_true (by revert h82 h92 h104; simp only [Bool.not_true, Bool.not_false, beq_iff_eq, beq_eq_false_iff_ne, ne_eq, decide_eq_decide, false_eq_decide_iff, true_eq_decide_iff, decide_eq_true_eq, decide_eq_false_iff_not, Bool.not_eq_true', Bool.not_eq_false', eq_self, not_true_eq_false, not_false_eq_true, false_implies, true_implies, implies_true, Bool.true_eq_false, Bool.false_eq_true] <;> omega)) | (exfalso; revert h82 h92 h104; simp only [Bool.not_true, Bool.not_false, beq_iff_eq, beq_eq_false_iff_ne, ne_eq, decide_eq_decide, false_eq_decide_iff, true_eq_decide_iff, decide_eq_true_eq, decide_eq_false_iff_not, Bool.not_eq_true', Bool.not_eq_false', eq_self, not_true_eq_false, not_false_eq_true, false_implies, true_implies, implies_true, Bool.true_eq_false, Bool.false_eq_true] <;> omega)
end Go.Proofs.Ytildknbbpkbkeaa
