import Derived.Test.YtildknbbpkbkeaaSA
import Derived.Test.YtildknbbpkbkeaaD11
set_option maxRecDepth 16384
set_option maxHeartbeats 4000000
set_option linter.unusedVariables false
set_option linter.unusedSimpArgs false
namespace Go.Proofs.Ytildknbbpkbkeaa
open Go.RowKit

def getI (b : Int) (l : List Ent) (i : Int) : Ent × Bool := if b < i ∧ i ≤ b + l.length then (l.getD (i - b - 1).toNat Ent.zero, true) else (Ent.zero, false)
def termI (b t : Int) (l : List Ent) (i : Int) : Int × Bool := if i = b then (t, true) else ((getI b l i).1.term, (getI b l i).2)
/-- A base, and a list's length, that may be reckoned with. -/
structure Bd (b : Int) (l : List Ent) : Prop where
  lo : -2251799813685248 ≤ b
  hi : b ≤ 2251799813685248
  len : l.length ≤ 140737488355328

theorem upto_con {M : Nat → Prop} {φ : World → Prop} {w : World} (hF : Fact w M φ) (b t : Int) (A : Option Addr) (n c : Nat) (i k : Int) (hk : IntKind.i64.wrap (i - b) = k) (h0 : 0 ≤ k) (h1 : k ≤ c) :
    Con Try.prog 73 #[.agg #[.int .i64 b, .int .i64 t, .slice A n c], .int .i64 i] w M (fun _ : Unit => .agg #[.int .i64 b, .int .i64 t, .slice A k.toNat k.toNat]) (fun _ => True) (fun _ => φ) := by
  refine con_intro (fn := Try.f73) (N := 17) Try.func73 rfl Try.ntmps73 hF rfl ?_
  refine c_seq ?_
  refine c_region ?_
  refine g_box rfl rfl (fun g2 => ?_)
  refine g_alloc rfl Try.zeroValue26 (fun g4 => ?_)
  refine g_nil ?_
  refine d_then ?_
  refine c_seq ?_
  refine c_region ?_
  refine g_v rfl (r_move) ?_
  refine g_v rfl (r_field (n := 0) Try.underlying26 rfl Try.sizeOf3 rfl rfl) ?_
  refine g_v rfl (r_load (tag := 2) rfl rfl rfl Try.isAgg3) ?_
  refine g_v rfl (r_sub rfl rfl hk) ?_
  refine g_v rfl (r_assign) ?_
  refine g_nil ?_
  refine d_then ?_
  refine c_seq ?_
  refine c_region ?_
  refine g_v rfl (r_field (n := 2) Try.underlying26 rfl Try.sizeOf24 rfl rfl) ?_
  refine g_v rfl (r_load (tag := 2) rfl rfl rfl Try.isAgg24) ?_
  refine g_v rfl (r_move) ?_
  refine g_v rfl (r_move) ?_
  refine g_v rfl (r_cutFull Try.underlying24 Try.sizeOf35 rfl rfl rfl (by omega) (by omega) (by omega)) ?_
  refine g_v rfl (r_field (n := 2) Try.underlying26 rfl Try.sizeOf24 rfl rfl) ?_
  refine g_store (tag := 2) rfl rfl rfl rfl Try.sizeOf24 rfl (.inl (Nat.zero_le _)) rfl ?_
  refine g_nil ?_
  refine d_then ?_
  refine c_seq ?_
  refine c_region ?_
  refine g_v rfl (r_loadA (tag := 2) rfl rfl Try.isAgg26 Try.sizeOf26 rfl rfl) ?_
  refine g_store (tag := 4) rfl rfl rfl rfl Try.sizeOf26 rfl (.inl (Nat.zero_le _)) rfl ?_
  refine g_nil ?_
  refine d_then ?_
  refine c_ret ?_
  refine d_retR () Try.results73 ?_ trivial (fun _ h => h) (.inr rfl)
  refine res_agg (tag := 4) rfl rfl Try.isAgg26 Try.sizeOf26 ?_
  refine res_nil ?_
  exact rfl

theorem Last_con {M : Nat → Prop} {φ : World → Prop} {w : World} (hF : Fact w M φ) (b t : Int) (A : Option Addr) (c : Nat) (l : List Ent) (hb : Bd b l) :
    Con Try.prog 38 #[.agg #[.int .i64 b, .int .i64 t, .slice A l.length c]] w M (fun _ : Unit => .int .i64 (b + l.length)) (fun _ => True) (fun _ _ => True) := by
  obtain ⟨hb1, hb2, hb3⟩ := hb
  refine con_intro (fn := Try.f38) (N := 9) Try.func38 rfl Try.ntmps38 hF rfl ?_
  refine c_seq ?_
  refine c_region ?_
  refine g_box rfl rfl (fun g1 => ?_)
  refine g_v rfl (r_assign) ?_
  refine g_nil ?_
  refine d_then ?_
  refine c_seq ?_
  refine c_region ?_
  refine g_v rfl (r_field (n := 0) Try.underlying26 rfl Try.sizeOf3 rfl rfl) ?_
  refine g_v rfl (r_load (tag := 1) rfl rfl rfl Try.isAgg3) ?_
  refine g_v rfl (r_field (n := 2) Try.underlying26 rfl Try.sizeOf24 rfl rfl) ?_
  refine g_v rfl (r_load (tag := 1) rfl rfl rfl Try.isAgg24) ?_
  refine g_v rfl (r_lenL Try.underlying24 rfl) ?_
  refine g_v rfl (r_add rfl rfl (by first | exact IntWalk.i64_in _ (by omega) | rfl)) ?_
  refine g_v rfl (r_assign) ?_
  refine g_nil ?_
  refine d_then ?_
  refine c_ret ?_
  refine d_retR () Try.results38 ?_ trivial (fun _ _ => trivial) (.inr rfl)
  refine res_tmp ?_
  refine res_nil ?_
  exact rfl

theorem Get_con {M : Nat → Prop} {w : World} (b t : Int) (A : Option Addr) (c : Nat) (l : List Ent) (hF : Fact w M (fun W => Cl W A (ents l))) (hb : Bd b l) (i : Int) :
    Con Try.prog 21 #[.agg #[.int .i64 b, .int .i64 t, .slice A l.length c], .int .i64 i] w M (fun _ : Unit => .tuple #[.agg (getI b l i).1.enc.toArray, .bool (getI b l i).2]) (fun _ => True) (fun _ _ => True) := by
  obtain ⟨hb1, hb2, hb3⟩ := id hb
  refine con_intro (fn := Try.f21) (N := 26) Try.func21 rfl Try.ntmps21 hF rfl ?_
  refine c_seq ?_
  refine c_region ?_
  refine g_box rfl rfl (fun g2 => ?_)
  refine g_alloc rfl Try.zeroValue35 (fun g4 => ?_)
  refine g_v rfl (r_assign) ?_
  refine g_nil ?_
  refine d_then ?_
  refine c_seq ?_
  refine c_seq ?_
  refine c_region ?_
  refine g_v rfl (r_move) ?_
  refine g_v rfl (r_field (n := 0) Try.underlying26 rfl Try.sizeOf3 rfl rfl) ?_
  refine g_v rfl (r_load (tag := 2) rfl rfl rfl Try.isAgg3) ?_
  refine g_v rfl (r_leq rfl rfl) ?_
  refine g_v rfl (r_move) ?_
  refine g_if rfl rfl rfl rfl rfl (fun h10 => ?_) (fun h10 => ?_)
  · have h10' := h10
    try simp only [Bool.not_true, Bool.not_false, decide_eq_true_eq, decide_eq_false_iff_not, Bool.not_eq_true', Bool.not_eq_false'] at h10'
    refine g_v rfl (r_move) ?_
    refine g_do rfl rfl rfl rfl rfl h10 ?_
    refine g_v rfl (r_loadA (tag := 2) rfl rfl Try.isAgg26 Try.sizeOf26 rfl rfl) ?_
    refine g_do rfl rfl rfl rfl rfl h10 ?_
    refine g_call Try.call38 rfl rfl (fun W hS => Last_con (hS.toFact) b t A c l hb) (fun _ _ => ?_)
    refine g_do rfl rfl rfl rfl rfl h10 ?_
    refine g_v rfl (r_gtr rfl rfl) ?_
    refine g_v rfl (r_pick0 rfl h10) ?_
    refine g_nil ?_
    refine d_then ?_
    refine c_cond rfl (fun h15 => ?_) (fun h15 => ?_)
    · have h15' := h15
      try simp only [Bool.not_true, Bool.not_false, decide_eq_true_eq, decide_eq_false_iff_not, Bool.not_eq_true', Bool.not_eq_false'] at h15'
      refine c_seq ?_
      refine c_region ?_
      refine g_v rfl (r_build #[] rfl build35) ?_
      have hin : ¬ (b < i ∧ i ≤ b + l.length) := by omega
      refine g_store (tag := 4) rfl rfl rfl rfl Try.sizeOf35 rfl (.inl (Nat.zero_le _)) rfl ?_
      refine g_v rfl (r_assign) ?_
      refine g_nil ?_
      refine d_then ?_
      refine c_ret ?_
      refine d_ret_then ?_
      refine d_retR () Try.results21 ?_ trivial (fun _ _ => trivial) (.inr rfl)
      refine res_agg (tag := 4) rfl rfl Try.isAgg35 Try.sizeOf35 ?_
      refine res_tmp ?_
      refine res_nil ?_
      simp only [getI, if_neg hin]; exact rfl
    · have h15' := h15
      try simp only [Bool.not_true, Bool.not_false, decide_eq_true_eq, decide_eq_false_iff_not, Bool.not_eq_true', Bool.not_eq_false'] at h15'
      refine c_skip ?_
      refine d_then ?_
      refine c_seq ?_
      have hin : b < i ∧ i ≤ b + l.length := by omega
      have hi : (i - b - 1).toNat < l.length := by omega
      obtain ⟨ad, hA⟩ := hF.now.is_some (by rw [ents_length]; omega)
      have hg : l.getD (i - b - 1).toNat Ent.zero = l[(i - b - 1).toNat] := by rw [List.getD_eq_getElem?_getD, List.getElem?_eq_getElem hi]; rfl
      refine c_region ?_
      refine g_v rfl (r_field (n := 2) Try.underlying26 rfl Try.sizeOf24 rfl rfl) ?_
      refine g_v rfl (r_load (tag := 2) rfl rfl rfl Try.isAgg24) ?_
      refine g_v rfl (r_move) ?_
      refine g_v rfl (r_field (n := 0) Try.underlying26 rfl Try.sizeOf3 rfl rfl) ?_
      refine g_v rfl (r_load (tag := 2) rfl rfl rfl Try.isAgg3) ?_
      refine g_v rfl (r_sub rfl rfl (by first | exact IntWalk.i64_in _ (by omega) | rfl)) ?_
      refine g_v rfl (r_sub rfl rfl (by first | exact IntWalk.i64_in _ (by omega) | rfl)) ?_
      refine g_v rfl (r_elem Try.underlying24 Try.sizeOf35 rfl hA rfl (by omega) (by omega)) ?_
      refine g_v rfl (r_loadFA rfl Try.isAgg35 Try.sizeOf35 (fun W h => ents_at h.1 hA _ hi) rfl) ?_
      refine g_store (tag := 4) rfl rfl rfl rfl Try.sizeOf35 rfl (.inl (Nat.zero_le _)) rfl ?_
      refine g_v rfl (r_assign) ?_
      refine g_nil ?_
      refine d_then ?_
      refine c_ret ?_
      refine d_retR () Try.results21 ?_ trivial (fun _ _ => trivial) (.inr rfl)
      refine res_agg (tag := 4) rfl rfl Try.isAgg35 Try.sizeOf35 ?_
      refine res_tmp ?_
      refine res_nil ?_
      show _ = Value.tuple #[.agg (getI b l i).1.enc.toArray, .bool (getI b l i).2]; rw [getI, if_pos hin]; show _ = Value.tuple #[.agg (l.getD (i - b - 1).toNat Ent.zero).enc.toArray, .bool true]; rw [hg]; exact rfl
  · have h10' := h10
    try simp only [Bool.not_true, Bool.not_false, decide_eq_true_eq, decide_eq_false_iff_not, Bool.not_eq_true', Bool.not_eq_false'] at h10'
    refine g_no rfl rfl rfl rfl rfl h10 ?_
    refine g_no rfl rfl rfl rfl rfl h10 ?_
    refine g_no rfl rfl rfl rfl rfl h10 ?_
    refine g_v rfl (r_pick1 rfl h10) ?_
    refine g_nil ?_
    refine d_then ?_
    refine c_cond1 rfl rfl ?_
    refine c_seq ?_
    refine c_region ?_
    refine g_v rfl (r_build #[] rfl build35) ?_
    have hin : ¬ (b < i ∧ i ≤ b + l.length) := by omega
    refine g_store (tag := 4) rfl rfl rfl rfl Try.sizeOf35 rfl (.inl (Nat.zero_le _)) rfl ?_
    refine g_v rfl (r_assign) ?_
    refine g_nil ?_
    refine d_then ?_
    refine c_ret ?_
    refine d_ret_then ?_
    refine d_retR () Try.results21 ?_ trivial (fun _ _ => trivial) (.inr rfl)
    refine res_agg (tag := 4) rfl rfl Try.isAgg35 Try.sizeOf35 ?_
    refine res_tmp ?_
    refine res_nil ?_
    simp only [getI, if_neg hin]; exact rfl

theorem Term_con {M : Nat → Prop} {w : World} (b t : Int) (A : Option Addr) (c : Nat) (l : List Ent) (hF : Fact w M (fun W => Cl W A (ents l))) (hb : Bd b l) (i : Int) :
    Con Try.prog 31 #[.agg #[.int .i64 b, .int .i64 t, .slice A l.length c], .int .i64 i] w M (fun _ : Unit => .tuple #[.int .i64 (termI b t l i).1, .bool (termI b t l i).2]) (fun _ => True) (fun _ _ => True) := by
  refine con_intro (fn := Try.f31) (N := 23) Try.func31 rfl Try.ntmps31 hF rfl ?_
  refine c_seq ?_
  refine c_region ?_
  refine g_box rfl rfl (fun g2 => ?_)
  refine g_v rfl (r_assign) ?_
  refine g_v rfl (r_assign) ?_
  refine g_nil ?_
  refine d_then ?_
  refine c_seq ?_
  refine c_seq ?_
  refine c_region ?_
  refine g_v rfl (r_move) ?_
  refine g_v rfl (r_field (n := 0) Try.underlying26 rfl Try.sizeOf3 rfl rfl) ?_
  refine g_v rfl (r_load (tag := 2) rfl rfl rfl Try.isAgg3) ?_
  refine g_v rfl (r_eql rfl rfl) ?_
  refine g_nil ?_
  refine d_then ?_
  refine c_cond rfl (fun h11 => ?_) (fun h11 => ?_)
  · have h11' := h11
    try simp only [Bool.not_true, Bool.not_false, decide_eq_true_eq, decide_eq_false_iff_not, Bool.not_eq_true', Bool.not_eq_false'] at h11'
    refine c_seq ?_
    refine c_region ?_
    refine g_v rfl (r_field (n := 1) Try.underlying26 rfl Try.sizeOf3 rfl rfl) ?_
    refine g_v rfl (r_load (tag := 2) rfl rfl rfl Try.isAgg3) ?_
    refine g_v rfl (r_assign) ?_
    refine g_v rfl (r_assign) ?_
    refine g_nil ?_
    refine d_then ?_
    refine c_ret ?_
    refine d_ret_then ?_
    refine d_retR () Try.results31 ?_ trivial (fun _ _ => trivial) (.inr rfl)
    refine res_tmp ?_
    refine res_tmp ?_
    refine res_nil ?_
    simp only [termI, if_pos h11']; exact rfl
  · have h11' := h11
    try simp only [Bool.not_true, Bool.not_false, decide_eq_true_eq, decide_eq_false_iff_not, Bool.not_eq_true', Bool.not_eq_false'] at h11'
    refine c_skip ?_
    refine d_then ?_
    refine c_seq ?_
    refine c_region ?_
    refine g_v rfl (r_loadA (tag := 2) rfl rfl Try.isAgg26 Try.sizeOf26 rfl rfl) ?_
    refine g_v rfl (r_move) ?_
    refine g_call Try.call21 rfl rfl (fun W hS => Get_con b t A c l hS.toFact hb i) (fun _ _ => ?_)
    refine g_v rfl (r_move) ?_
    refine g_v rfl (r_extract rfl rfl) ?_
    refine g_v rfl (r_extract rfl rfl) ?_
    refine g_alloc rfl Try.zeroValue35 (fun g6 => ?_)
    refine g_store (tag := 6) rfl rfl rfl rfl Try.sizeOf35 rfl (.inl (Nat.zero_le _)) rfl ?_
    refine g_v rfl (r_assign) ?_
    refine g_nil ?_
    refine d_then ?_
    refine c_seq ?_
    refine c_region ?_
    refine g_v rfl (r_field (n := 0) Try.underlying35 rfl Try.sizeOf3 rfl rfl) ?_
    refine g_v rfl (r_load (tag := 6) rfl rfl rfl Try.isAgg3) ?_
    refine g_v rfl (r_move) ?_
    refine g_v rfl (r_assign) ?_
    refine g_v rfl (r_assign) ?_
    refine g_nil ?_
    refine d_then ?_
    refine c_ret ?_
    refine d_retR () Try.results31 ?_ trivial (fun _ _ => trivial) (.inr rfl)
    refine res_tmp ?_
    refine res_tmp ?_
    refine res_nil ?_
    simp only [termI, if_neg h11']; exact rfl

theorem Add_con {M : Nat → Prop} {w : World} (b t : Int) (A : Option Addr) (c : Nat) (l : List Ent) (A1 : Option Addr) (c1 : Nat) (l1 : List Ent) (n n1 : Nat) (hn : l.length = n) (hn1 : l1.length = n1) (hF : Fact w M (fun W => Cl W A (ents l) ∧ Cl W A1 (ents l1))) (hc : n ≤ c) (hl : (n + n1) * 32 ≤ 140737488355328) :
    Con Try.prog 72 #[.agg #[.int .i64 b, .int .i64 t, .slice A n c], .slice A1 n1 c1] w M (fun x : Option Addr × Nat => .agg #[.int .i64 b, .int .i64 t, .slice x.1 (n + n1) x.2]) (fun x => n + n1 ≤ x.2) (fun x W => Cl W x.1 (ents (l ++ l1))) := by
  subst hn hn1
  refine con_intro (fn := Try.f72) (N := 18) Try.func72 rfl Try.ntmps72 hF rfl ?_
  refine c_seq ?_
  refine c_region ?_
  refine g_box rfl rfl (fun g2 => ?_)
  refine g_alloc rfl Try.zeroValue26 (fun g4 => ?_)
  refine g_nil ?_
  refine d_then ?_
  refine c_seq ?_
  refine c_region ?_
  refine g_v rfl (r_field (n := 2) Try.underlying26 rfl Try.sizeOf24 rfl rfl) ?_
  refine g_v rfl (r_load (tag := 2) rfl rfl rfl Try.isAgg24) ?_
  refine g_v rfl (r_field (n := 2) Try.underlying26 rfl Try.sizeOf24 rfl rfl) ?_
  refine g_v rfl (r_load (tag := 2) rfl rfl rfl Try.isAgg24) ?_
  refine g_v rfl (r_lenL Try.underlying24 rfl) ?_
  refine g_v rfl (r_field (n := 2) Try.underlying26 rfl Try.sizeOf24 rfl rfl) ?_
  refine g_v rfl (r_load (tag := 2) rfl rfl rfl Try.isAgg24) ?_
  refine g_v rfl (r_lenL Try.underlying24 rfl) ?_
  refine g_v rfl (r_cutFull Try.underlying24 Try.sizeOf35 rfl rfl rfl (by omega) (by omega) (by omega)) ?_
  refine g_v rfl (r_move) ?_
  refine g_appFull (sz := 3) (bytes := 32) rfl Try.underlying24 info35 rfl (by decide) (by decide) rfl rfl (ents_length l) (ents_length l1) (fun _ h => h) (ents_one _) hl (fun A' c' hc' => ?_)
  refine g_v rfl (r_field (n := 2) Try.underlying26 rfl Try.sizeOf24 rfl rfl) ?_
  refine g_store (tag := 2) rfl rfl rfl rfl Try.sizeOf24 rfl (.inl (Nat.zero_le _)) rfl ?_
  refine g_nil ?_
  refine d_then ?_
  refine c_seq ?_
  refine c_region ?_
  refine g_v rfl (r_loadA (tag := 2) rfl rfl Try.isAgg26 Try.sizeOf26 rfl rfl) ?_
  refine g_store (tag := 4) rfl rfl rfl rfl Try.sizeOf26 rfl (.inl (Nat.zero_le _)) rfl ?_
  refine g_nil ?_
  refine d_then ?_
  refine c_ret ?_
  refine d_retR (A', c') Try.results72 ?_ hc' (fun _ h => by rw [ents_append]; exact h.2) (.inr rfl)
  refine res_agg (tag := 4) rfl rfl Try.isAgg26 Try.sizeOf26 ?_
  refine res_nil ?_
  exact rfl

theorem Newer_con {M : Nat → Prop} {w : World} (b t : Int) (A : Option Addr) (c : Nat) (l : List Ent) (hF : Fact w M (fun W => Cl W A (ents l))) (hb : Bd b l) (last term : Int) :
    Con Try.prog 16 #[.agg #[.int .i64 b, .int .i64 t, .slice A l.length c], .int .i64 last, .int .i64 term] w M (fun _ : Unit => .bool (decide ((termI b t l (b + l.length)).1 < term ∨ (term = (termI b t l (b + l.length)).1 ∧ b + l.length ≤ last)))) (fun _ => True) (fun _ _ => True) := by
  refine con_intro (fn := Try.f16) (N := 30) Try.func16 rfl Try.ntmps16 hF rfl ?_
  refine c_seq ?_
  refine c_region ?_
  refine g_box rfl rfl (fun g3 => ?_)
  refine g_v rfl (r_assign) ?_
  refine g_nil ?_
  refine d_then ?_
  refine c_seq ?_
  refine ga_start (n := 9) _ [] #[false, false, false, false, false, false, false, false, false] (fun _ h => h) mixed rfl rfl ?_
  refine ga_v (i := 0) #[true, false, false, false, false, false, false, false, false] rfl (by kernel_rfl) (fun _ _ _ _ h => h) rfl (r_loadA (tag := 3) rfl rfl Try.isAgg26 Try.sizeOf26 rfl rfl) ?_
  refine ga_v (i := 1) #[true, true, false, false, false, false, false, false, false] rfl (by kernel_rfl) (fun _ _ _ _ h => h) rfl (r_loadA (tag := 3) rfl rfl Try.isAgg26 Try.sizeOf26 rfl rfl) ?_
  refine ga_call (i := 2) #[true, true, true, false, false, false, false, false, false] rfl (by kernel_rfl) (by decide) Try.call38 rfl rfl (fun W hS => Last_con hS.toFact b t A c l hb) (fun _ _ => ?_)
  refine ga_call (i := 3) #[true, true, true, true, false, false, false, false, false] rfl (by kernel_rfl) (by decide) Try.call31 rfl rfl (fun W hS => Term_con b t A c l (hS.toFact.imp fun _ h => h.1) hb (b + l.length)) (fun _ _ => ?_)
  refine ga_v (i := 4) #[true, true, true, true, true, false, false, false, false] rfl (by kernel_rfl) (fun _ _ _ _ h => h) rfl (r_move) ?_
  refine ga_v (i := 5) #[true, true, true, true, true, true, false, false, false] rfl (by kernel_rfl) (fun _ _ _ _ h => h) rfl (r_extract rfl rfl) ?_
  refine ga_v (i := 6) #[true, true, true, true, true, true, true, false, false] rfl (by kernel_rfl) (fun _ _ _ _ h => h) rfl (r_extract rfl rfl) ?_
  refine ga_v (i := 7) #[true, true, true, true, true, true, true, true, false] rfl (by kernel_rfl) (fun _ _ _ _ h => h) rfl (r_assign) ?_
  refine ga_v (i := 8) #[true, true, true, true, true, true, true, true, true] rfl (by kernel_rfl) (fun _ _ _ _ h => h) rfl (r_assign) ?_
  refine ga_done (by kernel_rfl) ?_
  refine d_then ?_
  refine c_seq ?_
  refine c_region ?_
  refine g_v rfl (r_move) ?_
  refine g_v rfl (r_move) ?_
  refine g_v rfl (r_gtr rfl rfl) ?_
  refine g_v rfl (r_move) ?_
  refine g_if rfl rfl rfl rfl rfl (fun h19 => ?_) (fun h19 => ?_)
  · have h19' := h19
    try simp only [Bool.not_true, Bool.not_false, decide_eq_true_eq, decide_eq_false_iff_not, Bool.not_eq_true', Bool.not_eq_false'] at h19'
    refine g_v rfl (r_move) ?_
    refine g_do rfl rfl rfl rfl rfl h19 ?_
    refine g_v rfl (r_move) ?_
    refine g_do rfl rfl rfl rfl rfl h19 ?_
    refine g_v rfl (r_eql rfl rfl) ?_
    refine g_do rfl rfl rfl rfl rfl h19 ?_
    refine g_v rfl (r_move) ?_
    refine g_if rfl rfl rfl rfl rfl (fun h23 => ?_) (fun h23 => ?_)
    · have h23' := h23
      try simp only [Bool.not_true, Bool.not_false, decide_eq_true_eq, decide_eq_false_iff_not, Bool.not_eq_true', Bool.not_eq_false'] at h23'
      refine g_v rfl (r_move) ?_
      refine g_do rfl rfl rfl rfl rfl h23 ?_
      refine g_v rfl (r_loadA (tag := 3) rfl rfl Try.isAgg26 Try.sizeOf26 rfl rfl) ?_
      refine g_do rfl rfl rfl rfl rfl h23 ?_
      refine g_call Try.call38 rfl rfl (fun W hS => Last_con hS.toFact b t A c l hb) (fun _ _ => ?_)
      refine g_do rfl rfl rfl rfl rfl h23 ?_
      refine g_v rfl (r_geq rfl rfl) ?_
      refine g_do rfl rfl rfl rfl rfl h19 ?_
      refine g_v rfl (r_pick1 rfl h23) ?_
      refine g_v rfl (r_pick0 rfl h19) ?_
      refine g_v rfl (r_assign) ?_
      refine g_nil ?_
      refine d_then ?_
      refine c_ret ?_
      refine d_retR () Try.results16 ?_ trivial (fun _ _ => trivial) (.inr rfl)
      refine res_tmp ?_
      refine res_nil ?_
      exact congrArg Value.bool (show decide (b + l.length ≤ last) = _ from decide_eq_decide.2 (by omega))
    · have h23' := h23
      try simp only [Bool.not_true, Bool.not_false, decide_eq_true_eq, decide_eq_false_iff_not, Bool.not_eq_true', Bool.not_eq_false'] at h23'
      refine g_no rfl rfl rfl rfl rfl h23 ?_
      refine g_no rfl rfl rfl rfl rfl h23 ?_
      refine g_no rfl rfl rfl rfl rfl h23 ?_
      refine g_do rfl rfl rfl rfl rfl h19 ?_
      refine g_v rfl (r_pick0 rfl h23) ?_
      refine g_v rfl (r_pick0 rfl h19) ?_
      refine g_v rfl (r_assign) ?_
      refine g_nil ?_
      refine d_then ?_
      refine c_ret ?_
      refine d_retR () Try.results16 ?_ trivial (fun _ _ => trivial) (.inr rfl)
      refine res_tmp ?_
      refine res_nil ?_
      exact congrArg Value.bool (show false = _ from (decide_eq_false (by omega)).symm)
  · have h19' := h19
    try simp only [Bool.not_true, Bool.not_false, decide_eq_true_eq, decide_eq_false_iff_not, Bool.not_eq_true', Bool.not_eq_false'] at h19'
    refine g_no rfl rfl rfl rfl rfl h19 ?_
    refine g_no rfl rfl rfl rfl rfl h19 ?_
    refine g_no rfl rfl rfl rfl rfl h19 ?_
    refine g_nu rfl rfl rfl rfl rfl ?_
    refine g_nu rfl rfl rfl rfl rfl ?_
    refine g_nu rfl rfl rfl rfl rfl ?_
    refine g_nu rfl rfl rfl rfl rfl ?_
    refine g_no rfl rfl rfl rfl rfl h19 ?_
    refine g_v rfl (r_pick1 rfl h19) ?_
    refine g_v rfl (r_assign) ?_
    refine g_nil ?_
    refine d_then ?_
    refine c_ret ?_
    refine d_retR () Try.results16 ?_ trivial (fun _ _ => trivial) (.inr rfl)
    refine res_tmp ?_
    refine res_nil ?_
    exact congrArg Value.bool (show true = _ from (decide_eq_true (by omega)).symm)
end Go.Proofs.Ytildknbbpkbkeaa
