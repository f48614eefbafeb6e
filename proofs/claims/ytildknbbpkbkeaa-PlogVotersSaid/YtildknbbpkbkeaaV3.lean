import Derived.Test.YtildknbbpkbkeaaV2
set_option maxRecDepth 16384
set_option maxHeartbeats 4000000
set_option linter.unusedVariables false
set_option linter.unusedSimpArgs false
namespace Go.Proofs.Ytildknbbpkbkeaa
open Go.RowKit

def votersE (e : Ent) : List Int := if risingI (bytesI e.data) then bytesI e.data else []
theorem votersE_len (e : Ent) : (votersE e).length = if risingI (bytesI e.data) then e.data.size else 0 := by
  unfold votersE; split
  · rw [bytesI_length]
  · rfl
theorem votersE_map (e : Ent) : (votersE e).map (Value.int .i64) = if risingI (bytesI e.data) then (bytesI e.data).map (Value.int .i64) else [] := by
  unfold votersE; split <;> rfl
/-- The voters that the first k entries leave. -/
def nowK (l : List Ent) (vs : List Int) : Nat → List Int
  | 0 => vs
  | k + 1 => if (l.getD k Ent.zero).kind = 1 then votersE (l.getD k Ent.zero) else nowK l vs k
def nowI (l : List Ent) (vs : List Int) : List Int := nowK l vs l.length

theorem Now_con {M : Nat → Prop} {w : World} (tm vo : Int) (V : Option Addr) (nv cv : Nat) (vs : List Int) (sn : ByteArray) (b t : Int) (A : Option Addr) (n c : Nat) (l : List Ent) (hnv : vs.length = nv) (hn : l.length = n) (hcv : nv ≤ cv) (hl : n ≤ 140737488355328) (hlv : nv ≤ 17592186044416) (hd : ∀ j, j < l.length → (l.getD j Ent.zero).data.size ≤ 17592186044416) (hF : Fact w M (fun W => Cl W V (vs.map (Value.int .i64)) ∧ Cl W A (ents l))) :
    Con Try.prog 26 #[.agg #[.int .i64 tm, .int .i64 vo, .slice V nv cv, .string sn, .int .i64 b, .int .i64 t, .slice A n c]] w M (fun x : Option Addr × Nat => .slice x.1 (nowI l vs).length x.2) (fun x => (nowI l vs).length ≤ x.2) (fun x W => Cl W x.1 ((nowI l vs).map (Value.int .i64))) := by
  subst hnv hn
  refine con_intro (fn := Try.f26) (N := 40) Try.func26 rfl Try.ntmps26 hF rfl ?_
  refine c_seq ?_
  refine c_region ?_
  refine g_box rfl rfl (fun g1 => ?_)
  refine g_v rfl (r_assign) ?_
  refine g_nil ?_
  refine d_then ?_
  refine c_seq ?_
  refine c_seq ?_
  refine c_region ?_
  refine g_v rfl (r_field (n := 4) Try.underlying44 rfl Try.sizeOf26 rfl rfl) ?_
  refine g_v rfl (r_field (n := 6) Try.underlying26 rfl Try.sizeOf24 rfl rfl) ?_
  refine g_v rfl (r_load (tag := 1) rfl rfl rfl Try.isAgg24) ?_
  refine g_v rfl (r_lenL Try.underlying24 rfl) ?_
  refine g_v rfl (r_move) ?_
  refine g_nil ?_
  refine d_then ?_
  refine c_block ?_
  refine c_loopS (ι := Nat) [1, 10, 11] (fun k => [(11, Value.int .i64 (k : Int))]) (fun k => k ≤ l.length ∧ nowK l vs l.length = nowK l vs (l.length - k)) (fun k => l.length - k) 0 ⟨Nat.zero_le _, rfl⟩ ⟨rfl, rfl, rfl, trivial⟩ (fun k u hI => ?_)
  obtain ⟨hkl, hat⟩ := hI
  refine c_seq ?_
  refine c_region ?_
  refine g_v rfl (r_lss rfl rfl) ?_
  refine g_nil ?_
  refine d_then ?_
  refine c_seq ?_
  refine c_cond rfl (fun h12 => ?_) (fun h12 => ?_)
  · have h12' := h12
    try simp only [Bool.not_true, Bool.not_false, decide_eq_true_eq, decide_eq_false_iff_not, Bool.not_eq_true', Bool.not_eq_false'] at h12'
    have hk1 : k < l.length := by omega
    have hix : (((l.length : Int) - 1) - (k : Int)).toNat = l.length - 1 - k := by omega
    obtain ⟨ad, hA1⟩ := hF.now.2.is_some (by rw [ents_length]; omega)
    refine c_skip ?_
    refine d_then ?_
    refine c_seq ?_
    refine c_block ?_
    refine c_seq ?_
    refine c_region ?_
    refine g_v rfl (r_move) ?_
    refine g_v rfl (r_assign) ?_
    refine g_nil ?_
    refine d_then ?_
    refine c_seq ?_
    refine c_region ?_
    refine g_v rfl (r_field (n := 4) Try.underlying44 rfl Try.sizeOf26 rfl rfl) ?_
    refine g_v rfl (r_field (n := 6) Try.underlying26 rfl Try.sizeOf24 rfl rfl) ?_
    refine g_v rfl (r_load (tag := 1) rfl rfl rfl Try.isAgg24) ?_
    refine g_v rfl (r_field (n := 4) Try.underlying44 rfl Try.sizeOf26 rfl rfl) ?_
    refine g_v rfl (r_field (n := 6) Try.underlying26 rfl Try.sizeOf24 rfl rfl) ?_
    refine g_v rfl (r_load (tag := 1) rfl rfl rfl Try.isAgg24) ?_
    refine g_v rfl (r_lenL Try.underlying24 rfl) ?_
    refine g_v rfl (r_sub rfl rfl (by first | exact IntWalk.i64_in _ (by omega) | rfl)) ?_
    refine g_v rfl (r_move) ?_
    refine g_v rfl (r_sub rfl rfl (by first | exact IntWalk.i64_in _ (by omega) | rfl)) ?_
    refine g_v rfl (r_elem Try.underlying24 Try.sizeOf35 rfl hA1 rfl (by omega) (by omega)) ?_
    refine g_v rfl (r_loadFA rfl Try.isAgg35 Try.sizeOf35 (fun W h => by rw [hix]; exact entD_at h.2 hA1 (l.length - 1 - k) (by omega)) rfl) ?_
    refine g_alloc rfl Try.zeroValue35 (fun g4 => ?_)
    refine g_store (tag := 4) rfl rfl rfl rfl Try.sizeOf35 rfl (.inl (Nat.zero_le _)) rfl ?_
    refine g_nil ?_
    refine d_then ?_
    refine c_seq ?_
    refine c_region ?_
    refine g_v rfl (r_field (n := 1) Try.underlying35 rfl Try.sizeOf3 rfl rfl) ?_
    refine g_v rfl (r_load (tag := 4) rfl rfl rfl Try.isAgg3) ?_
    refine g_v rfl (r_eql rfl rfl) ?_
    refine g_nil ?_
    refine d_then ?_
    refine c_cond rfl (fun h28 => ?_) (fun h28 => ?_)
    · have h28' := h28
      try simp only [Bool.not_true, Bool.not_false, decide_eq_true_eq, decide_eq_false_iff_not, Bool.not_eq_true', Bool.not_eq_false'] at h28'
      have hnk : nowK l vs (l.length - k) = votersE (l.getD (l.length - 1 - k) Ent.zero) := by
        rw [show l.length - k = (l.length - 1 - k) + 1 from by omega]
        exact if_pos h28'
      refine c_seq ?_
      refine c_region ?_
      refine g_v rfl (r_field (n := 2) Try.underlying35 rfl Try.sizeOf9 rfl rfl) ?_
      refine g_v rfl (r_load (tag := 4) rfl rfl rfl Try.isAgg9) ?_
      refine g_call Try.call23 rfl rfl (fun W hS => List_con (hS.toFact.imp fun _ _ => trivial) (l.getD (l.length - 1 - k) Ent.zero).data (hd _ (by omega))) (fun ⟨B, cb⟩ hcb => ?_)
      refine g_v rfl (r_move) ?_
      refine g_v rfl (r_extract rfl rfl) ?_
      refine g_v rfl (r_extract rfl rfl) ?_
      refine g_v rfl (r_assign) ?_
      refine g_v rfl (r_assign) ?_
      refine g_nil ?_
      refine d_then ?_
      refine c_seq ?_
      refine c_region ?_
      refine g_v rfl (r_move) ?_
      refine g_v rfl (r_assign) ?_
      refine g_nil ?_
      refine d_then ?_
      refine c_ret ?_
      refine d_ret_block ?_
      refine d_ret_then ?_
      refine d_ret_then ?_
      refine d_ret_block ?_
      refine d_ret_then ?_
      refine d_retR (B, cb) Try.results26 ?_ (by rw [show nowI l vs = _ from hat.trans hnk, votersE_len]; exact hcb) (fun W h => by rw [show nowI l vs = _ from hat.trans hnk, votersE_map]; exact h.2) (.inr rfl)
      refine res_tmp ?_
      refine res_nil ?_
      rw [show nowI l vs = _ from hat.trans hnk, votersE_len]; exact rfl
    · have h28' := h28
      try simp only [Bool.not_true, Bool.not_false, decide_eq_true_eq, decide_eq_false_iff_not, Bool.not_eq_true', Bool.not_eq_false'] at h28'
      refine c_skip ?_
      refine d_normal_block ?_
      refine d_then ?_
      refine c_region ?_
      refine g_v rfl (r_add rfl rfl (by first | exact IntWalk.i64_in _ (by omega) | rfl)) ?_
      refine g_v rfl (r_move) ?_
      refine g_nil ?_
      have hne : nowK l vs (l.length - k) = nowK l vs (l.length - (k + 1)) := by
        rw [show l.length - k = (l.length - 1 - k) + 1 from by omega, show l.length - (k + 1) = l.length - 1 - k from by omega]
        exact if_neg h28'
      exact d_round (k + 1) ⟨by omega, hat.trans hne⟩ (by omega) ⟨rfl, rfl, rfl, trivial⟩ (fun _ h => h.dropH (t := 4) rfl)
  · have h12' := h12
    try simp only [Bool.not_true, Bool.not_false, decide_eq_true_eq, decide_eq_false_iff_not, Bool.not_eq_true', Bool.not_eq_false'] at h12'
    have hv : nowK l vs (l.length - k) = vs := by rw [show l.length - k = 0 from by omega]; rfl
    refine c_exit ?_
    refine d_exit_then ?_
    refine d_exit_then ?_
    refine d_exit_block ?_
    refine d_then ?_
    refine c_seq ?_
    refine c_region ?_
    refine g_v rfl (r_field (n := 2) Try.underlying44 rfl Try.sizeOf42 rfl rfl) ?_
    refine g_v rfl (r_load (tag := 1) rfl rfl rfl Try.isAgg42) ?_
    refine g_call Try.call75 rfl rfl (fun W hS => Clone_con V cv vs vs.length rfl (hS.toFact.imp fun _ h => h.1) hlv) (fun ⟨B, cb⟩ hcb => ?_)
    refine g_v rfl (r_assign) ?_
    refine g_nil ?_
    refine d_then ?_
    refine c_ret ?_
    refine d_retR (B, cb) Try.results26 ?_ (by rw [show nowI l vs = vs from hat.trans hv]; exact hcb) (fun W h => by rw [show nowI l vs = vs from hat.trans hv]; exact h.2) (.inr rfl)
    refine res_tmp ?_
    refine res_nil ?_
    rw [show nowI l vs = vs from hat.trans hv]; exact rfl

theorem rNow_con {M : Nat → Prop} {w : World} (tm vo : Int) (V : Option Addr) (nv cv : Nat) (vs : List Int) (sn : ByteArray) (b t : Int) (A : Option Addr) (n c : Nat) (l : List Ent) (hnv : vs.length = nv) (hn : l.length = n) (hcv : nv ≤ cv) (hl : n ≤ 140737488355328) (hlv : nv ≤ 17592186044416) (hd : ∀ j, j < l.length → (l.getD j Ent.zero).data.size ≤ 17592186044416) (hF : Fact w M (fun W => Cl W V (vs.map (Value.int .i64)) ∧ Cl W A (ents l))) :
    Con Try.prog 27 #[.agg #[.int .i64 tm, .int .i64 vo, .slice V nv cv, .string sn, .int .i64 b, .int .i64 t, .slice A n c]] w M (fun x : Option Addr × Nat => .slice x.1 (nowI l vs).length x.2) (fun x => (nowI l vs).length ≤ x.2) (fun x W => Cl W x.1 ((nowI l vs).map (Value.int .i64))) := by
  subst hnv hn
  refine con_intro (fn := Try.f27) (N := 35) Try.func27 rfl Try.ntmps27 hF rfl ?_
  refine c_seq ?_
  refine c_region ?_
  refine g_box rfl rfl (fun g1 => ?_)
  refine g_v rfl (r_assign) ?_
  refine g_nil ?_
  refine d_then ?_
  refine c_seq ?_
  refine c_region ?_
  refine g_v rfl (r_field (n := 2) Try.underlying44 rfl Try.sizeOf42 rfl rfl) ?_
  refine g_v rfl (r_load (tag := 1) rfl rfl rfl Try.isAgg42) ?_
  refine g_v rfl (r_assign) ?_
  refine g_nil ?_
  refine d_then ?_
  refine c_seq ?_
  refine c_seq ?_
  refine c_region ?_
  refine g_v rfl (r_assign) ?_
  refine g_nil ?_
  refine d_then ?_
  refine c_block ?_
  refine c_loopU (ι := Nat × Option Addr × Nat) [1, 3, 4] (fun ⟨k, B, cb⟩ => [(3, .slice B (nowK l vs k).length cb), (4, Value.int .i64 (k : Int))]) (fun ⟨k, B, cb⟩ => ⟨w, M, [(1, g1, .cells #[.int .i64 tm, .int .i64 vo, .slice V vs.length cv, .string sn, .int .i64 b, .int .i64 t, .slice A l.length c] 44 (0, 0))], [], fun W => (Cl W V (vs.map (Value.int .i64)) ∧ Cl W A (ents l)) ∧ Cl W B ((nowK l vs k).map (Value.int .i64))⟩) (fun ⟨k, B, cb⟩ => k ≤ l.length ∧ (nowK l vs k).length ≤ cb) (fun ⟨k, B, cb⟩ => l.length - k) (0, V, cv) ⟨Nat.zero_le _, hcv⟩ ⟨rfl, rfl, rfl, trivial⟩ (fun W h => h.phi fun _ h => ⟨h, h.1⟩) (fun ⟨k, B, cb⟩ u hI => ?_)
  obtain ⟨hkl, hcb⟩ : k ≤ l.length ∧ (nowK l vs k).length ≤ cb := hI
  refine c_seq ?_
  refine c_seq ?_
  refine c_region ?_
  refine g_v rfl (r_move) ?_
  refine g_v rfl (r_field (n := 4) Try.underlying44 rfl Try.sizeOf26 rfl rfl) ?_
  refine g_v rfl (r_field (n := 6) Try.underlying26 rfl Try.sizeOf24 rfl rfl) ?_
  refine g_v rfl (r_load (tag := 1) rfl rfl rfl Try.isAgg24) ?_
  refine g_v rfl (r_lenL Try.underlying24 rfl) ?_
  refine g_v rfl (r_lss rfl rfl) ?_
  refine g_nil ?_
  refine d_then ?_
  refine c_cond rfl (fun h12 => ?_) (fun h12 => ?_)
  · have h12' := h12
    try simp only [Bool.not_true, Bool.not_false, decide_eq_true_eq, decide_eq_false_iff_not, Bool.not_eq_true', Bool.not_eq_false'] at h12'
    have hk1 : k < l.length := by omega
    obtain ⟨ad, hA1⟩ := hF.now.2.is_some (by rw [ents_length]; omega)
    refine c_skip ?_
    refine d_then ?_
    refine c_seq ?_
    refine c_block ?_
    refine c_seq ?_
    refine c_region ?_
    refine g_v rfl (r_field (n := 4) Try.underlying44 rfl Try.sizeOf26 rfl rfl) ?_
    refine g_v rfl (r_field (n := 6) Try.underlying26 rfl Try.sizeOf24 rfl rfl) ?_
    refine g_v rfl (r_load (tag := 1) rfl rfl rfl Try.isAgg24) ?_
    refine g_v rfl (r_move) ?_
    refine g_v rfl (r_elem Try.underlying24 Try.sizeOf35 rfl hA1 rfl (by omega) (by omega)) ?_
    refine g_v rfl (r_fieldF Try.underlying35 rfl Try.sizeOf3 rfl) ?_
    refine g_v rfl (r_loadF rfl Try.isAgg3 (fun W h => (entD_at h.1.2 hA1 k hk1).cells 1 _ rfl)) ?_
    refine g_v rfl (r_eql rfl rfl) ?_
    refine g_nil ?_
    refine d_then ?_
    refine c_cond rfl (fun h22 => ?_) (fun h22 => ?_)
    · have h22' := h22
      try simp only [Bool.not_true, Bool.not_false, decide_eq_true_eq, decide_eq_false_iff_not, Bool.not_eq_true', Bool.not_eq_false'] at h22'
      have hnk : nowK l vs (k + 1) = votersE (l.getD k Ent.zero) := if_pos h22'
      refine c_region ?_
      refine g_v rfl (r_field (n := 4) Try.underlying44 rfl Try.sizeOf26 rfl rfl) ?_
      refine g_v rfl (r_field (n := 6) Try.underlying26 rfl Try.sizeOf24 rfl rfl) ?_
      refine g_v rfl (r_load (tag := 1) rfl rfl rfl Try.isAgg24) ?_
      refine g_v rfl (r_move) ?_
      refine g_v rfl (r_elem Try.underlying24 Try.sizeOf35 rfl hA1 rfl (by omega) (by omega)) ?_
      refine g_v rfl (r_fieldF Try.underlying35 rfl Try.sizeOf9 rfl) ?_
      refine g_v rfl (r_loadF rfl Try.isAgg9 (fun W h => (entD_at h.1.2 hA1 k hk1).cells 2 _ rfl)) ?_
      refine g_call Try.call24 rfl rfl (fun W hS => rList_con (hS.toFact.imp fun _ _ => trivial) (l.getD k Ent.zero).data (hd _ hk1)) (fun ⟨B', cb'⟩ hcb' => ?_)
      refine g_v rfl (r_move) ?_
      refine g_v rfl (r_extract rfl rfl) ?_
      refine g_v rfl (r_extract rfl rfl) ?_
      refine g_v rfl (r_assign) ?_
      refine g_nil ?_
      refine d_normal_block ?_
      refine d_then ?_
      refine c_region ?_
      refine g_v rfl (r_move) ?_
      refine g_v rfl (r_add rfl rfl (by first | exact IntWalk.i64_in _ (by omega) | rfl)) ?_
      refine g_v rfl (r_assign) ?_
      refine g_nil ?_
      exact d_round (k + 1, B', cb') ⟨show k + 1 ≤ l.length by omega, show (nowK l vs (k + 1)).length ≤ cb' by rw [hnk, votersE_len]; exact hcb'⟩ (show l.length - (k + 1) < l.length - k by omega) ⟨rfl, (by show Value.slice B' _ cb' = Value.slice B' (nowK l vs (k + 1)).length cb'; rw [hnk, votersE_len]), rfl, trivial⟩ (fun W h => h.phi fun W h => ⟨h.1.1, by show Cl W B' ((nowK l vs (k + 1)).map (Value.int .i64)); rw [hnk, votersE_map]; exact h.2⟩)
    · have h22' := h22
      try simp only [Bool.not_true, Bool.not_false, decide_eq_true_eq, decide_eq_false_iff_not, Bool.not_eq_true', Bool.not_eq_false'] at h22'
      have hnk : nowK l vs (k + 1) = nowK l vs k := if_neg h22'
      refine c_skip ?_
      refine d_normal_block ?_
      refine d_then ?_
      refine c_region ?_
      refine g_v rfl (r_move) ?_
      refine g_v rfl (r_add rfl rfl (by first | exact IntWalk.i64_in _ (by omega) | rfl)) ?_
      refine g_v rfl (r_assign) ?_
      refine g_nil ?_
      exact d_round (k + 1, B, cb) ⟨show k + 1 ≤ l.length by omega, show (nowK l vs (k + 1)).length ≤ cb by rw [hnk]; exact hcb⟩ (show l.length - (k + 1) < l.length - k by omega) ⟨rfl, (by show Value.slice B _ cb = Value.slice B (nowK l vs (k + 1)).length cb; rw [hnk]), rfl, trivial⟩ (fun W h => h.phi fun W h => ⟨h.1, by show Cl W B ((nowK l vs (k + 1)).map (Value.int .i64)); rw [hnk]; exact h.2⟩)
  · have h12' := h12
    try simp only [Bool.not_true, Bool.not_false, decide_eq_true_eq, decide_eq_false_iff_not, Bool.not_eq_true', Bool.not_eq_false'] at h12'
    have hke : k = l.length := by omega
    refine c_exit ?_
    refine d_exit_then ?_
    refine d_exit_then ?_
    refine d_exit_block ?_
    refine d_then ?_
    refine c_seq ?_
    refine c_region ?_
    refine g_v rfl (r_move) ?_
    refine g_v rfl (r_assign) ?_
    refine g_nil ?_
    refine d_then ?_
    refine c_ret ?_
    refine d_retR (B, cb) Try.results27 ?_ (by rw [show nowI l vs = nowK l vs k from by rw [hke]; rfl]; exact hcb) (fun W h => by rw [show nowI l vs = nowK l vs k from by rw [hke]; rfl]; exact h.2) (.inr rfl)
    refine res_tmp ?_
    refine res_nil ?_
    rw [show nowI l vs = nowK l vs k from by rw [hke]; rfl]; exact rfl
end Go.Proofs.Ytildknbbpkbkeaa
