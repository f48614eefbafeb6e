import Derived.Test.YtildknbbpkbkeaaPL
import Derived.Test.YtildknbbpkbkeaaV3
set_option maxRecDepth 16384
set_option maxHeartbeats 4000000
set_option linter.unusedVariables false
set_option linter.unusedSimpArgs false
namespace Go.Proofs.Ytildknbbpkbkeaa
open Go.RowKit

theorem take_int (vs : List Int) (k : Nat) {W : World} {A : Option Addr} (h : Cl W A (vs.map (Value.int .i64))) : Cl W A ((vs.take k).map (Value.int .i64)) := by
  rw [List.map_take]; exact h.take k
theorem rl_len (s : ByteArray) (h : s.size ≤ 100) : (if risingI (bytesI s) then s.size else 0) ≤ 140737488355328 := by split <;> omega
theorem same_refl (a : List Int) : sameIntsI a a = true := decide_eq_true rfl
theorem votersE_of (s : ByteArray) {W : World} {A : Option Addr} (h : Cl W A (if risingI (bytesI s) then (bytesI s).map (Value.int .i64) else [])) : Cl W A ((if risingI (bytesI s) then bytesI s else []).map (Value.int .i64)) := by
  split at h
  · rename_i h1; rw [if_pos h1]; exact h
  · rename_i h1; rw [if_neg h1]; exact h
theorem votersE_l (s : ByteArray) : (if risingI (bytesI s) then bytesI s else []).length = if risingI (bytesI s) then s.size else 0 := by
  split
  · rw [bytesI_length]
  · rfl


theorem now_len (l : List Ent) (vs : List Int) (h : vs.length ≤ 100) : (nowI (fewI l) vs).length ≤ 140737488355328 := by
  have : ∀ k, (nowK (fewI l) vs k).length ≤ 100 := by
    intro k
    induction k with
    | zero => exact h
    | succ k ih =>
      unfold nowK
      split
      · rw [votersE_len]
        have := few_data l k
        split <;> omega
      · exact ih
  have := this (fewI l).length
  unfold nowI
  omega
theorem Data_con2 {M : Nat → Prop} {w : World} (A : Option Addr) (c : Nat) (vs : List Int) (n : Nat) (hn : vs.length = n) (hF : Fact w M (fun W => Cl W A (vs.map (Value.int .i64)))) (hl : n ≤ 140737488355328) :
    Con Try.prog 28 #[.slice A n c] w M (fun _ : Unit => .string (strOfNums (vs.map (IntKind.u8.wrap ·)))) (fun _ => True) (fun _ _ => True) := by
  subst hn
  exact Data_con A c vs hF hl

theorem Voters_con {M : Nat → Prop} {w : World} (data : ByteArray) (A1 : Option Addr) (n1 c1 : Nat) (vs1 : List Int) (tm vo : Int) (V : Option Addr) (nv cv : Nat) (vs : List Int) (sn : ByteArray) (b t : Int) (A : Option Addr) (n c : Nat) (l : List Ent) (hn1 : vs1.length = n1) (hc1 : n1 ≤ c1) (hnv : vs.length = nv) (hn : l.length = n) (hcv : nv ≤ cv)
    (hF : Fact w M (fun W => (Cl W A1 (vs1.map (Value.int .i64)) ∧ Cl W V (vs.map (Value.int .i64)) ∧ Cl W A (ents l)))) : Con Try.prog 5 #[.string data, .slice A1 n1 c1, .agg #[.int .i64 tm, .int .i64 vo, .slice V nv cv, .string sn, .int .i64 b, .int .i64 t, .slice A n c]] w M (fun _ : Unit => .bool true) (fun _ => True) (fun _ _ => True) := by
  refine con_intro (fn := Try.f5) (N := 76) Try.func5 rfl Try.ntmps5 hF rfl ?_
  refine c_seq ?_
  refine c_region ?_
  refine g_box rfl rfl (fun g5 => ?_)
  refine g_v rfl (r_assign) ?_
  refine g_nil ?_
  refine d_then ?_
  refine c_seq ?_
  refine c_region ?_
  refine g_callN Try.call15 rfl rfl (fun W hS => awake_con (hS.toFact.imp fun _ _ => trivial)) (fun _ _ => ?_)
  refine g_v rfl (r_assign) ?_
  refine g_nil ?_
  refine d_then ?_
  refine c_joinS (ι := ByteArray) [0, 1, 5, 7] (fun s => [(0, .string s)]) (fun s => s.size ≤ 100) ?_ (fun s u hI => ?_)
  · refine c_seq ?_
    refine c_region ?_
    refine g_v rfl (r_move) ?_
    refine g_v rfl (r_len Try.underlying9 rfl) ?_
    refine g_v rfl (r_gtr rfl rfl) ?_
    refine g_nil ?_
    refine d_then ?_
    refine c_cond rfl (fun h17 => ?_) (fun h17 => ?_)
    · have h17' := h17
      try simp only [Bool.not_true, Bool.not_false, decide_eq_true_eq, decide_eq_false_iff_not, Bool.not_eq_true', Bool.not_eq_false'] at h17'
      refine c_region ?_
      refine g_v rfl (r_move) ?_
      refine g_v rfl (r_cutSHi Try.underlying9 rfl rfl (by omega) (by omega)) ?_
      refine g_v rfl (r_assign) ?_
      refine g_nil ?_
      refine d_flat [(0, .string _), (1, .slice _ _ _), (5, .pointer _), (7, .bool _)] ⟨rfl, rfl, rfl, rfl, trivial⟩ (fun u => ?_)
      refine d_sta ⟨w, M, [(5, _, .cells #[.int .i64 _, .int .i64 _, .slice _ _ _, .string _, .int .i64 _, .int .i64 _, .slice _ _ _] _ _)], _, _⟩ (fun _ h => h) ?_
      exact d_round (data.extract 0 100) (show (data.extract 0 100).size ≤ 100 by rw [ByteArray.size_extract]; omega) Nat.zero_lt_one ⟨rfl, rfl, rfl, rfl, trivial⟩ (fun _ h => h)
    · have h17' := h17
      try simp only [Bool.not_true, Bool.not_false, decide_eq_true_eq, decide_eq_false_iff_not, Bool.not_eq_true', Bool.not_eq_false'] at h17'
      refine c_skip ?_
      refine d_flat [(0, .string _), (1, .slice _ _ _), (5, .pointer _), (7, .bool _)] ⟨rfl, rfl, rfl, rfl, trivial⟩ (fun u => ?_)
      refine d_sta ⟨w, M, [(5, _, .cells #[.int .i64 _, .int .i64 _, .slice _ _ _, .string _, .int .i64 _, .int .i64 _, .slice _ _ _] _ _)], _, _⟩ (fun _ h => h) ?_
      exact d_round data (show data.size ≤ 100 by omega) Nat.zero_lt_one ⟨rfl, rfl, rfl, rfl, trivial⟩ (fun _ h => h)
  · have hs1 : s.size ≤ 100 := hI
    refine c_joinS (ι := Nat) [0, 1, 5, 7] (fun q => [(1, .slice A1 q c1)]) (fun q => q ≤ 100 ∧ q ≤ vs1.length ∧ q ≤ c1) ?_ (fun q u hI => ?_)
    · refine c_seq ?_
      refine c_region ?_
      refine g_v rfl (r_move) ?_
      refine g_v rfl (r_lenL Try.underlying42 rfl) ?_
      refine g_v rfl (r_gtr rfl rfl) ?_
      refine g_nil ?_
      refine d_then ?_
      refine c_cond rfl (fun h22 => ?_) (fun h22 => ?_)
      · have h22' := h22
        try simp only [Bool.not_true, Bool.not_false, decide_eq_true_eq, decide_eq_false_iff_not, Bool.not_eq_true', Bool.not_eq_false'] at h22'
        refine c_region ?_
        refine g_v rfl (r_move) ?_
        refine g_v rfl (r_cutHi Try.underlying42 Try.sizeOf3 rfl rfl (by omega) (by omega)) ?_
        refine g_v rfl (r_assign) ?_
        refine g_nil ?_
        refine d_flat [(0, .string _), (1, .slice _ _ _), (5, .pointer _), (7, .bool _)] ⟨rfl, rfl, rfl, rfl, trivial⟩ (fun u => ?_)
        refine d_sta ⟨w, M, [(5, _, .cells #[.int .i64 _, .int .i64 _, .slice _ _ _, .string _, .int .i64 _, .int .i64 _, .slice _ _ _] _ _)], _, _⟩ (fun _ h => h) ?_
        exact d_round 100 ⟨by omega, by omega, by omega⟩ Nat.zero_lt_one ⟨rfl, rfl, rfl, rfl, trivial⟩ (fun _ h => h)
      · have h22' := h22
        try simp only [Bool.not_true, Bool.not_false, decide_eq_true_eq, decide_eq_false_iff_not, Bool.not_eq_true', Bool.not_eq_false'] at h22'
        refine c_skip ?_
        refine d_flat [(0, .string _), (1, .slice _ _ _), (5, .pointer _), (7, .bool _)] ⟨rfl, rfl, rfl, rfl, trivial⟩ (fun u => ?_)
        refine d_sta ⟨w, M, [(5, _, .cells #[.int .i64 _, .int .i64 _, .slice _ _ _, .string _, .int .i64 _, .int .i64 _, .slice _ _ _] _ _)], _, _⟩ (fun _ h => h) ?_
        exact d_round n1 ⟨by omega, by omega, by omega⟩ Nat.zero_lt_one ⟨rfl, rfl, rfl, rfl, trivial⟩ (fun _ h => h)
    · obtain ⟨hq1, hq2, hq3⟩ := hI
      refine c_join (ι := Nat) [0, 1, 5, 7] (fun k => []) (fun k => ⟨w, M, [(5, g5, .cells #[.int .i64 tm, .int .i64 vo, .slice V k cv, .string sn, .int .i64 b, .int .i64 t, .slice A n c] 44 (0, 0))], [], fun W => (Cl W A1 (vs1.map (Value.int .i64)) ∧ Cl W V (vs.map (Value.int .i64)) ∧ Cl W A (ents l))⟩) (fun k => k ≤ 100 ∧ k ≤ vs.length ∧ k ≤ cv) ?_ (fun k u hI => ?_)
      · refine c_seq ?_
        refine c_region ?_
        refine g_v rfl (r_field (n := 2) Try.underlying44 rfl Try.sizeOf42 rfl rfl) ?_
        refine g_v rfl (r_load (tag := 5) rfl rfl rfl Try.isAgg42) ?_
        refine g_v rfl (r_lenL Try.underlying42 rfl) ?_
        refine g_v rfl (r_gtr rfl rfl) ?_
        refine g_nil ?_
        refine d_then ?_
        refine c_cond rfl (fun h28 => ?_) (fun h28 => ?_)
        · have h28' := h28
          try simp only [Bool.not_true, Bool.not_false, decide_eq_true_eq, decide_eq_false_iff_not, Bool.not_eq_true', Bool.not_eq_false'] at h28'
          refine c_region ?_
          refine g_v rfl (r_field (n := 2) Try.underlying44 rfl Try.sizeOf42 rfl rfl) ?_
          refine g_v rfl (r_load (tag := 5) rfl rfl rfl Try.isAgg42) ?_
          refine g_v rfl (r_cutHi Try.underlying42 Try.sizeOf3 rfl rfl (by omega) (by omega)) ?_
          refine g_v rfl (r_field (n := 2) Try.underlying44 rfl Try.sizeOf42 rfl rfl) ?_
          refine g_store (tag := 5) rfl rfl rfl rfl Try.sizeOf42 rfl (.inl (Nat.zero_le _)) rfl ?_
          refine g_nil ?_
          refine d_flat [(0, .string _), (1, .slice _ _ _), (5, .pointer _), (7, .bool _)] ⟨rfl, rfl, rfl, rfl, trivial⟩ (fun u => ?_)
          refine d_sta ⟨w, M, [(5, _, .cells #[.int .i64 _, .int .i64 _, .slice _ _ _, .string _, .int .i64 _, .int .i64 _, .slice _ _ _] _ _)], _, _⟩ (fun _ h => h) ?_
          exact d_round 100 ⟨by omega, by omega, by omega⟩ Nat.zero_lt_one ⟨rfl, rfl, rfl, rfl, trivial⟩ (fun _ h => h)
        · have h28' := h28
          try simp only [Bool.not_true, Bool.not_false, decide_eq_true_eq, decide_eq_false_iff_not, Bool.not_eq_true', Bool.not_eq_false'] at h28'
          refine c_skip ?_
          refine d_flat [(0, .string _), (1, .slice _ _ _), (5, .pointer _), (7, .bool _)] ⟨rfl, rfl, rfl, rfl, trivial⟩ (fun u => ?_)
          refine d_sta ⟨w, M, [(5, _, .cells #[.int .i64 _, .int .i64 _, .slice _ _ _, .string _, .int .i64 _, .int .i64 _, .slice _ _ _] _ _)], _, _⟩ (fun _ h => h) ?_
          exact d_round nv ⟨by omega, by omega, by omega⟩ Nat.zero_lt_one ⟨rfl, rfl, rfl, rfl, trivial⟩ (fun _ h => h)
      · obtain ⟨hk1, hk2, hk3⟩ := hI
        refine c_seq ?_
        refine c_region ?_
        refine g_v rfl (r_field (n := 4) Try.underlying44 rfl Try.sizeOf26 rfl rfl) ?_
        refine g_v rfl (r_loadA (tag := 5) rfl rfl Try.isAgg26 Try.sizeOf26 rfl rfl) ?_
        refine g_call Try.call17 rfl rfl (fun W hS => small_con b t A c l n hn (hS.toFact.imp fun _ h => h.2.2)) (fun xl hxl => ?_)
        refine g_v rfl (r_field (n := 4) Try.underlying44 rfl Try.sizeOf26 rfl rfl) ?_
        refine g_store (tag := 5) rfl rfl rfl rfl Try.sizeOf26 rfl (.inl (Nat.zero_le _)) rfl ?_
        refine g_nil ?_
        refine d_then ?_
        refine c_seq ?_
        have f1 := few_len l
        refine c_region ?_
        refine g_v rfl (r_move) ?_
        refine g_call Try.call23 rfl rfl (fun W hS => List_con (hS.toFact.imp fun _ _ => trivial) s (by omega)) (fun xa hxa => ?_)
        refine g_v rfl (r_move) ?_
        refine g_v rfl (r_extract rfl rfl) ?_
        refine g_v rfl (r_extract rfl rfl) ?_
        refine g_v rfl (r_assign) ?_
        refine g_v rfl (r_assign) ?_
        refine g_nil ?_
        refine d_then ?_
        refine c_flat [(0, .string _), (1, .slice _ _ _), (5, .pointer _), (7, .bool _), (8, .slice _ _ _), (9, .bool _)] ⟨rfl, rfl, rfl, rfl, rfl, rfl, trivial⟩ (fun u => ?_)
        refine c_sta ⟨w, M, [(5, _, .cells #[.int .i64 _, .int .i64 _, .slice _ _ _, .string _, .int .i64 _, .int .i64 _, .slice _ _ _] _ _)], _, _⟩ (fun _ h => h) ?_
        refine c_seq ?_
        refine c_region ?_
        refine g_v rfl (r_move) ?_
        refine g_call Try.call24 rfl rfl (fun W hS => rList_con (hS.toFact.imp fun _ _ => trivial) s (by omega)) (fun xb hxb => ?_)
        refine g_v rfl (r_move) ?_
        refine g_v rfl (r_extract rfl rfl) ?_
        refine g_v rfl (r_extract rfl rfl) ?_
        refine g_v rfl (r_assign) ?_
        refine g_v rfl (r_assign) ?_
        refine g_nil ?_
        refine d_then ?_
        refine c_seq ?_
        refine c_seq ?_
        refine c_region ?_
        refine g_v rfl (r_move) ?_
        refine g_v rfl (r_not rfl) ?_
        refine g_nil ?_
        refine d_then ?_
        refine c_cond rfl (fun h48 => ?_) (fun h48 => ?_)
        · have h48' := h48
          try simp only [Bool.not_true, Bool.not_false, decide_eq_true_eq, decide_eq_false_iff_not, Bool.not_eq_true', Bool.not_eq_false'] at h48'
          refine c_region ?_
          refine g_v rfl (r_assign) ?_
          refine g_nil ?_
          refine d_then ?_
          refine c_seq ?_
          refine c_region ?_
          refine g_v rfl (r_move) ?_
          refine g_v rfl (r_move) ?_
          refine g_callN Try.call25 rfl rfl (fun W hS => SameInts_con xa.1 none xa.2 0 (if risingI (bytesI s) then bytesI s else []) [] _ _ (votersE_l s) rfl (rl_len s hs1) (hS.toFact.imp fun _ h => ⟨votersE_of s h.1.2, Cl.nil _ _⟩)) (fun _ _ => ?_)
          refine g_v rfl (r_assign) ?_
          refine g_nil ?_
          refine d_then ?_
          refine c_flat [(1, .slice _ _ _), (5, .pointer _), (7, .bool _), (9, .bool _), (11, .bool _), (12, .bool _)] ⟨rfl, rfl, rfl, rfl, rfl, rfl, trivial⟩ (fun u => ?_)
          refine c_sta ⟨w, M, [(5, _, .cells #[.int .i64 _, .int .i64 _, .slice _ _ _, .string _, .int .i64 _, .int .i64 _, .slice _ _ _] _ _)], _, _⟩ (fun _ h => h) ?_
          refine c_seq ?_
          refine ga_start (n := 6) _ [] #[false, false, false, false, false, false] (fun _ h => h) mixed rfl rfl ?_
          refine ga_v (i := 0) #[true, false, false, false, false, false] rfl (by kernel_rfl) (fun _ _ _ _ h => h) rfl (r_loadA (tag := 5) rfl rfl Try.isAgg44 Try.sizeOf44 rfl rfl) ?_
          refine ga_v (i := 2) #[true, false, true, false, false, false] rfl (by kernel_rfl) (fun _ _ _ _ h => h) rfl (r_loadA (tag := 5) rfl rfl Try.isAgg44 Try.sizeOf44 rfl rfl) ?_
          refine ga_call (i := 1) #[true, true, true, false, false, false] rfl (by kernel_rfl) (by decide) Try.call26 rfl rfl (fun W hS => Now_con tm vo V k cv (vs.take k) sn b t xl.1 (fewI l).length xl.2 (fewI l) (by rw [List.length_take]; omega) rfl hk3 (by omega) (by omega) (fun j _ => Nat.le_trans (few_data l j) (by decide)) (hS.toFact.imp fun _ h => ⟨take_int vs k h.1.1.1.2.1, h.1.1.2⟩)) (fun y1 hy1 => ?_)
          refine ga_call (i := 3) #[true, true, true, true, false, false] rfl (by kernel_rfl) (by decide) Try.call27 rfl rfl (fun W hS => rNow_con tm vo V k cv (vs.take k) sn b t xl.1 (fewI l).length xl.2 (fewI l) (by rw [List.length_take]; omega) rfl hk3 (by omega) (by omega) (fun j _ => Nat.le_trans (few_data l j) (by decide)) (hS.toFact.imp fun _ h => ⟨take_int vs k h.1.1.1.1.2.1, h.1.1.1.2⟩)) (fun y2 hy2 => ?_)
          refine ga_call (i := 4) #[true, true, true, true, true, false] rfl (by kernel_rfl) (by decide) Try.call25 rfl rfl (fun W hS => SameInts_con y1.1 y2.1 y1.2 y2.2 (nowI (fewI l) (vs.take k)) (nowI (fewI l) (vs.take k)) _ _ rfl rfl (now_len _ _ (by rw [List.length_take]; omega)) (hS.toFact.imp fun _ h => ⟨h.1.2, h.2⟩)) (fun _ _ => ?_)
          refine ga_v (i := 5) #[true, true, true, true, true, true] rfl (by kernel_rfl) (fun _ _ _ _ h => h) rfl (r_assign) ?_
          refine ga_done (by kernel_rfl) ?_
          refine d_then ?_
          refine c_seq ?_
          refine c_region ?_
          refine g_v rfl (r_move) ?_
          refine g_v rfl (r_move) ?_
          refine g_do rfl rfl rfl rfl rfl rfl ?_
          refine g_v rfl (r_move) ?_
          refine g_v rfl (r_pick1 rfl rfl) ?_
          refine g_v rfl (r_move) ?_
          refine g_do rfl rfl rfl rfl rfl (by rw [if_neg (by simpa using h48)]; exact same_refl _) ?_
          refine g_v rfl (r_move) ?_
          refine g_do rfl rfl rfl rfl rfl (by rw [if_neg (by simpa using h48)]; exact same_refl _) ?_
          refine g_v rfl (r_move) ?_
          refine g_do rfl rfl rfl rfl rfl (by rw [if_neg (by simpa using h48)]; exact same_refl _) ?_
          refine g_v rfl (r_eqlB Try.underlying4 rfl rfl) ?_
          refine g_v rfl (r_pick1 rfl (by rw [if_neg (by simpa using h48)]; exact same_refl _)) ?_
          refine g_v rfl (r_move) ?_
          refine g_do rfl rfl rfl rfl rfl (beq_self_eq_true _) ?_
          refine g_v rfl (r_move) ?_
          refine g_do rfl rfl rfl rfl rfl (beq_self_eq_true _) ?_
          refine g_callN Try.call28 rfl rfl (fun W hS => Data_con2 A1 c1 (vs1.take q) q (by rw [List.length_take]; omega) (hS.toFact.imp fun _ h => take_int vs1 q h.1.1.1.1.1.1.1) (by omega)) (fun _ _ => ?_)
          refine g_do rfl rfl rfl rfl rfl (beq_self_eq_true _) ?_
          refine g_v rfl (r_move) ?_
          refine g_do rfl rfl rfl rfl rfl (beq_self_eq_true _) ?_
          refine g_callN Try.call29 rfl rfl (fun W hS => rData_con A1 c1 (vs1.take q) q (by rw [List.length_take]; omega) (hS.toFact.imp fun _ h => take_int vs1 q h.1.1.1.1.1.1.1) (by omega)) (fun _ _ => ?_)
          refine g_do rfl rfl rfl rfl rfl (beq_self_eq_true _) ?_
          refine g_v rfl (r_eqlS rfl rfl) ?_
          refine g_v rfl (r_pick1 rfl (beq_self_eq_true _)) ?_
          refine g_v rfl (r_move) ?_
          refine g_do rfl rfl rfl rfl rfl (beq_self_eq_true _) ?_
          refine g_v rfl (r_move) ?_
          refine g_v rfl (r_pick1 rfl (beq_self_eq_true _)) ?_
          refine g_v rfl (r_assign) ?_
          refine g_nil ?_
          refine d_then ?_
          refine c_flat [(6, .bool _)] ⟨rfl, trivial⟩ (fun u => ?_)
          refine c_sta ⟨w, M, [(5, _, .cells #[.int .i64 _, .int .i64 _, .slice _ _ _, .string _, .int .i64 _, .int .i64 _, .slice _ _ _] _ _)], _, _⟩ (fun _ h => h) ?_
          refine c_ret ?_
          refine d_retR () Try.results5 ?_ trivial (fun _ _ => trivial) (.inr rfl)
          refine res_tmp ?_
          refine res_nil ?_
          exact congrArg Value.bool (same_refl _)
        · have h48' := h48
          try simp only [Bool.not_true, Bool.not_false, decide_eq_true_eq, decide_eq_false_iff_not, Bool.not_eq_true', Bool.not_eq_false'] at h48'
          refine c_skip ?_
          refine d_then ?_
          refine c_seq ?_
          refine c_region ?_
          refine g_v rfl (r_move) ?_
          refine g_v rfl (r_move) ?_
          refine g_callN Try.call25 rfl rfl (fun W hS => SameInts_con xa.1 xb.1 xa.2 xb.2 (if risingI (bytesI s) then bytesI s else []) (if risingI (bytesI s) then bytesI s else []) _ _ (votersE_l s) (votersE_l s) (rl_len s hs1) (hS.toFact.imp fun _ h => ⟨votersE_of s h.1.2, votersE_of s h.2⟩)) (fun _ _ => ?_)
          refine g_v rfl (r_assign) ?_
          refine g_nil ?_
          refine d_then ?_
          refine c_flat [(1, .slice _ _ _), (5, .pointer _), (7, .bool _), (9, .bool _), (11, .bool _), (12, .bool _)] ⟨rfl, rfl, rfl, rfl, rfl, rfl, trivial⟩ (fun u => ?_)
          refine c_sta ⟨w, M, [(5, _, .cells #[.int .i64 _, .int .i64 _, .slice _ _ _, .string _, .int .i64 _, .int .i64 _, .slice _ _ _] _ _)], _, _⟩ (fun _ h => h) ?_
          refine c_seq ?_
          refine ga_start (n := 6) _ [] #[false, false, false, false, false, false] (fun _ h => h) mixed rfl rfl ?_
          refine ga_v (i := 0) #[true, false, false, false, false, false] rfl (by kernel_rfl) (fun _ _ _ _ h => h) rfl (r_loadA (tag := 5) rfl rfl Try.isAgg44 Try.sizeOf44 rfl rfl) ?_
          refine ga_v (i := 2) #[true, false, true, false, false, false] rfl (by kernel_rfl) (fun _ _ _ _ h => h) rfl (r_loadA (tag := 5) rfl rfl Try.isAgg44 Try.sizeOf44 rfl rfl) ?_
          refine ga_call (i := 1) #[true, true, true, false, false, false] rfl (by kernel_rfl) (by decide) Try.call26 rfl rfl (fun W hS => Now_con tm vo V k cv (vs.take k) sn b t xl.1 (fewI l).length xl.2 (fewI l) (by rw [List.length_take]; omega) rfl hk3 (by omega) (by omega) (fun j _ => Nat.le_trans (few_data l j) (by decide)) (hS.toFact.imp fun _ h => ⟨take_int vs k h.1.1.1.2.1, h.1.1.2⟩)) (fun y1 hy1 => ?_)
          refine ga_call (i := 3) #[true, true, true, true, false, false] rfl (by kernel_rfl) (by decide) Try.call27 rfl rfl (fun W hS => rNow_con tm vo V k cv (vs.take k) sn b t xl.1 (fewI l).length xl.2 (fewI l) (by rw [List.length_take]; omega) rfl hk3 (by omega) (by omega) (fun j _ => Nat.le_trans (few_data l j) (by decide)) (hS.toFact.imp fun _ h => ⟨take_int vs k h.1.1.1.1.2.1, h.1.1.1.2⟩)) (fun y2 hy2 => ?_)
          refine ga_call (i := 4) #[true, true, true, true, true, false] rfl (by kernel_rfl) (by decide) Try.call25 rfl rfl (fun W hS => SameInts_con y1.1 y2.1 y1.2 y2.2 (nowI (fewI l) (vs.take k)) (nowI (fewI l) (vs.take k)) _ _ rfl rfl (now_len _ _ (by rw [List.length_take]; omega)) (hS.toFact.imp fun _ h => ⟨h.1.2, h.2⟩)) (fun _ _ => ?_)
          refine ga_v (i := 5) #[true, true, true, true, true, true] rfl (by kernel_rfl) (fun _ _ _ _ h => h) rfl (r_assign) ?_
          refine ga_done (by kernel_rfl) ?_
          refine d_then ?_
          refine c_seq ?_
          refine c_region ?_
          refine g_v rfl (r_move) ?_
          refine g_v rfl (r_move) ?_
          refine g_do rfl rfl rfl rfl rfl rfl ?_
          refine g_v rfl (r_move) ?_
          refine g_v rfl (r_pick1 rfl rfl) ?_
          refine g_v rfl (r_move) ?_
          refine g_do rfl rfl rfl rfl rfl (same_refl _) ?_
          refine g_v rfl (r_move) ?_
          refine g_do rfl rfl rfl rfl rfl (same_refl _) ?_
          refine g_v rfl (r_move) ?_
          refine g_do rfl rfl rfl rfl rfl (same_refl _) ?_
          refine g_v rfl (r_eqlB Try.underlying4 rfl rfl) ?_
          refine g_v rfl (r_pick1 rfl (same_refl _)) ?_
          refine g_v rfl (r_move) ?_
          refine g_do rfl rfl rfl rfl rfl (beq_self_eq_true _) ?_
          refine g_v rfl (r_move) ?_
          refine g_do rfl rfl rfl rfl rfl (beq_self_eq_true _) ?_
          refine g_callN Try.call28 rfl rfl (fun W hS => Data_con2 A1 c1 (vs1.take q) q (by rw [List.length_take]; omega) (hS.toFact.imp fun _ h => take_int vs1 q h.1.1.1.1.1.1.1) (by omega)) (fun _ _ => ?_)
          refine g_do rfl rfl rfl rfl rfl (beq_self_eq_true _) ?_
          refine g_v rfl (r_move) ?_
          refine g_do rfl rfl rfl rfl rfl (beq_self_eq_true _) ?_
          refine g_callN Try.call29 rfl rfl (fun W hS => rData_con A1 c1 (vs1.take q) q (by rw [List.length_take]; omega) (hS.toFact.imp fun _ h => take_int vs1 q h.1.1.1.1.1.1.1) (by omega)) (fun _ _ => ?_)
          refine g_do rfl rfl rfl rfl rfl (beq_self_eq_true _) ?_
          refine g_v rfl (r_eqlS rfl rfl) ?_
          refine g_v rfl (r_pick1 rfl (beq_self_eq_true _)) ?_
          refine g_v rfl (r_move) ?_
          refine g_do rfl rfl rfl rfl rfl (beq_self_eq_true _) ?_
          refine g_v rfl (r_move) ?_
          refine g_v rfl (r_pick1 rfl (beq_self_eq_true _)) ?_
          refine g_v rfl (r_assign) ?_
          refine g_nil ?_
          refine d_then ?_
          refine c_flat [(6, .bool _)] ⟨rfl, trivial⟩ (fun u => ?_)
          refine c_sta ⟨w, M, [(5, _, .cells #[.int .i64 _, .int .i64 _, .slice _ _ _, .string _, .int .i64 _, .int .i64 _, .slice _ _ _] _ _)], _, _⟩ (fun _ h => h) ?_
          refine c_ret ?_
          refine d_retR () Try.results5 ?_ trivial (fun _ _ => trivial) (.inr rfl)
          refine res_tmp ?_
          refine res_nil ?_
          exact congrArg Value.bool (same_refl _)
end Go.Proofs.Ytildknbbpkbkeaa
