import Derived.Test.YtildknbbpkbkeaaT8
set_option maxRecDepth 16384
set_option maxHeartbeats 4000000
set_option linter.unusedVariables false
set_option linter.unusedSimpArgs false
namespace Go.Proofs.Ytildknbbpkbkeaa
open Go.RowKit

def prevT (t : Int) (l : List Ent) (k : Nat) : Int := if k = 0 then t else (l.getD (k - 1) Ent.zero).term
def entOk (t : Int) (e : Ent) : Prop := t ≤ e.term ∧ withinI e.term = true ∧ 0 ≤ e.kind ∧ e.kind ≤ 2 ∧ e.data.size ≤ 8000 ∧ (e.kind = 1 → risingI (bytesI e.data) = true)
instance (t : Int) (e : Ent) : Decidable (entOk t e) := inferInstanceAs (Decidable (_ ∧ _ ∧ _ ∧ _ ∧ _ ∧ _))
/-- May this log be? -/
def logOk (b t : Int) (l : List Ent) : Prop := withinI b = true ∧ withinI t = true ∧ l.length ≤ 100000 ∧ ∀ j, j < l.length → entOk (prevT t l j) (l.getD j Ent.zero)
instance (b t : Int) (l : List Ent) : Decidable (logOk b t l) := inferInstanceAs (Decidable (_ ∧ _ ∧ _ ∧ _))
def checkI (b t : Int) (l : List Ent) : Int := if logOk b t l then 0 else 1
theorem check_no {b t : Int} {l : List Ent} (h : ¬ logOk b t l) : (1 : Int) = checkI b t l := (if_neg h).symm
theorem check_ok {b t : Int} {l : List Ent} (h : logOk b t l) : (0 : Int) = checkI b t l := (if_pos h).symm
def cutE (e : Ent) : Ent := ⟨e.term, e.kind, if 60 < e.data.size then e.data.extract 0 60 else e.data⟩
def fewI (l : List Ent) : List Ent := (l.take 40).map cutE
theorem few_len (l : List Ent) : (fewI l).length ≤ 40 := by simp [fewI]; omega
theorem take_cut (l : List Ent) (k : Nat) (h : k < l.length) : (l.take (k + 1)).map cutE = (l.take k).map cutE ++ [cutE (l.getD k Ent.zero)] := by
  rw [List.take_succ_eq_append_getElem h, List.map_append, List.getD_eq_getElem?_getD, List.getElem?_eq_getElem h]; rfl
theorem few_end (l : List Ent) (k : Nat) (h : k ≤ l.length) (h4 : k ≤ 40) (h1 : ¬(k < l.length ∧ k < 40)) : (l.take k).map cutE = fewI l := by
  unfold fewI
  rcases Nat.lt_or_ge k 40 with h2 | h2
  · rw [List.take_of_length_le (by omega), List.take_of_length_le (by omega)]
  · rw [show k = 40 from by omega]
theorem few_endlen (l : List Ent) (k : Nat) (h : k ≤ l.length) (h4 : k ≤ 40) (h1 : ¬(k < l.length ∧ k < 40)) : k = (fewI l).length := by
  unfold fewI
  rw [List.length_map, List.length_take]
  omega
theorem litE (e : Ent) : Try.prog.builtSlice 35 1 [(0, .agg e.enc.toArray)] = some (ents [e]).toArray := by
  obtain ⟨a, b, c⟩ := e
  kernel_rfl
theorem cutE_no {e : Ent} (h : ¬ 60 < e.data.size) : cutE e = e := by unfold cutE; rw [if_neg h]
theorem cutE_yes {e : Ent} (h : 60 < e.data.size) : cutE e = ⟨e.term, e.kind, e.data.extract 0 60⟩ := by unfold cutE; rw [if_pos h]
def sameTermsI (l m : List Ent) : Bool := decide (m.length ≤ l.length ∧ ∀ j, j < m.length → (m.getD j Ent.zero).term = (l.getD j Ent.zero).term)

theorem Check_con {M : Nat → Prop} {w : World} (b t : Int) (A : Option Addr) (c : Nat) (l : List Ent) (n : Nat) (hn : l.length = n) (hF : Fact w M (fun W => Cl W A (ents l))) (hd : ∀ j, j < l.length → (l.getD j Ent.zero).data.size ≤ 17592186044416) (hl : n ≤ 140737488355328) :
    Con Try.prog 19 #[.agg #[.int .i64 b, .int .i64 t, .slice A n c]] w M (fun _ : Unit => .int .i64 (checkI b t l)) (fun _ => True) (fun _ _ => True) := by
  subst hn
  refine con_intro (fn := Try.f19) (N := 75) Try.func19 rfl Try.ntmps19 hF rfl ?_
  refine c_seq ?_
  refine c_region ?_
  refine g_box rfl rfl (fun g1 => ?_)
  refine g_v rfl (r_assign) ?_
  refine g_nil ?_
  refine d_then ?_
  refine c_seq ?_
  refine c_seq ?_
  refine c_region ?_
  refine g_v rfl (r_field (n := 0) Try.underlying26 rfl Try.sizeOf3 rfl rfl) ?_
  refine g_v rfl (r_load (tag := 1) rfl rfl rfl Try.isAgg3) ?_
  refine g_callN Try.call71 rfl rfl (fun W hS => within_con (hS.toFact.imp fun _ _ => trivial) b) (fun _ _ => ?_)
  refine g_v rfl (r_not rfl) ?_
  refine g_v rfl (r_move) ?_
  refine g_if rfl rfl rfl rfl rfl (fun h12 => ?_) (fun h12 => ?_)
  · have h12' := h12
    try simp only [Bool.not_true, Bool.not_false, decide_eq_true_eq, decide_eq_false_iff_not, Bool.not_eq_true', Bool.not_eq_false', within_t, within_f] at h12'
    refine g_v rfl (r_field (n := 1) Try.underlying26 rfl Try.sizeOf3 rfl rfl) ?_
    refine g_do rfl rfl rfl rfl rfl h12 ?_
    refine g_v rfl (r_load (tag := 1) rfl rfl rfl Try.isAgg3) ?_
    refine g_do rfl rfl rfl rfl rfl h12 ?_
    refine g_callN Try.call71 rfl rfl (fun W hS => within_con (hS.toFact.imp fun _ _ => trivial) t) (fun _ _ => ?_)
    refine g_do rfl rfl rfl rfl rfl h12 ?_
    refine g_v rfl (r_not rfl) ?_
    refine g_v rfl (r_pick0 rfl h12) ?_
    refine g_v rfl (r_move) ?_
    refine g_if rfl rfl rfl rfl rfl (fun h18 => ?_) (fun h18 => ?_)
    · have h18' := h18
      try simp only [Bool.not_true, Bool.not_false, decide_eq_true_eq, decide_eq_false_iff_not, Bool.not_eq_true', Bool.not_eq_false', within_t, within_f] at h18'
      refine g_v rfl (r_field (n := 2) Try.underlying26 rfl Try.sizeOf24 rfl rfl) ?_
      refine g_do rfl rfl rfl rfl rfl h18 ?_
      refine g_v rfl (r_load (tag := 1) rfl rfl rfl Try.isAgg24) ?_
      refine g_do rfl rfl rfl rfl rfl h18 ?_
      refine g_v rfl (r_lenL Try.underlying24 rfl) ?_
      refine g_do rfl rfl rfl rfl rfl h18 ?_
      refine g_v rfl (r_gtr rfl rfl) ?_
      refine g_v rfl (r_pick0 rfl h18) ?_
      refine g_nil ?_
      refine d_then ?_
      refine c_flat [(1, .pointer _), (23, .bool _)] ⟨rfl, rfl, trivial⟩ (fun u => ?_)
      refine c_sta ⟨w, M, [(1, _, .cells #[.int .i64 _, .int .i64 _, .slice _ _ _] _ _)], _, _⟩ (fun _ h => h) ?_
      refine c_cond rfl (fun h23 => ?_) (fun h23 => ?_)
      · have h23' := h23
        try simp only [Bool.not_true, Bool.not_false, decide_eq_true_eq, decide_eq_false_iff_not, Bool.not_eq_true', Bool.not_eq_false', within_t, within_f] at h23'
        refine c_seq ?_
        refine c_region ?_
        refine g_v rfl (r_assign) ?_
        refine g_nil ?_
        refine d_then ?_
        refine c_ret ?_
        refine d_ret_then ?_
        refine d_retR () Try.results19 ?_ trivial (fun _ _ => trivial) (.inr rfl)
        refine res_tmp ?_
        refine res_nil ?_
        exact congrArg (Value.int .i64) (check_no (fun hok => by obtain ⟨ho1, ho2, ho3, _⟩ := hok; simp only [within_t] at ho1 ho2; omega))
      · have h23' := h23
        try simp only [Bool.not_true, Bool.not_false, decide_eq_true_eq, decide_eq_false_iff_not, Bool.not_eq_true', Bool.not_eq_false', within_t, within_f] at h23'
        refine c_skip ?_
        refine d_then ?_
        refine c_seq ?_
        refine c_region ?_
        refine g_v rfl (r_field (n := 1) Try.underlying26 rfl Try.sizeOf3 rfl rfl) ?_
        refine g_v rfl (r_load (tag := 1) rfl rfl rfl Try.isAgg3) ?_
        refine g_v rfl (r_assign) ?_
        refine g_nil ?_
        refine d_then ?_
        refine c_seq ?_
        refine c_seq ?_
        refine c_region ?_
        refine g_v rfl (r_field (n := 2) Try.underlying26 rfl Try.sizeOf24 rfl rfl) ?_
        refine g_v rfl (r_load (tag := 1) rfl rfl rfl Try.isAgg24) ?_
        refine g_v rfl (r_lenL Try.underlying24 rfl) ?_
        refine g_v rfl (r_move) ?_
        refine g_nil ?_
        refine d_then ?_
        refine c_block ?_
        refine c_loopS (ι := Nat) [3, 27, 28, 29] (fun k => [(3, .int .i64 (prevT t l k)), (29, Value.int .i64 (k : Int))]) (fun k => k ≤ l.length ∧ ∀ j, j < k → entOk (prevT t l j) (l.getD j Ent.zero)) (fun k => l.length - k) 0 ⟨Nat.zero_le _, fun j hj => absurd hj (by omega)⟩ ⟨rfl, rfl, rfl, rfl, trivial⟩ (fun k u hI => ?_)
        obtain ⟨hkl, hgo⟩ := hI
        refine c_seq ?_
        refine c_region ?_
        refine g_v rfl (r_lss rfl rfl) ?_
        refine g_nil ?_
        refine d_then ?_
        refine c_seq ?_
        refine c_cond rfl (fun h30 => ?_) (fun h30 => ?_)
        · have h30' := h30
          try simp only [Bool.not_true, Bool.not_false, decide_eq_true_eq, decide_eq_false_iff_not, Bool.not_eq_true', Bool.not_eq_false', within_t, within_f] at h30'
          have hk1 : k < l.length := by omega
          have hdk := hd k hk1
          obtain ⟨pt, hpt⟩ : ∃ pt, prevT t l k = pt := ⟨_, rfl⟩
          obtain ⟨ad, hA1⟩ := hF.now.is_some (by rw [ents_length]; omega)
          refine c_skip ?_
          refine d_then ?_
          refine c_seq ?_
          refine c_block ?_
          refine c_seq ?_
          refine c_region ?_
          refine g_v rfl (r_elem Try.underlying24 Try.sizeOf35 rfl hA1 rfl (by omega) (by omega)) ?_
          refine g_v rfl (r_loadFA rfl Try.isAgg35 Try.sizeOf35 (fun W h => entD_at h hA1 k hk1) rfl) ?_
          refine g_alloc rfl Try.zeroValue35 (fun g5 => ?_)
          refine g_store (tag := 5) rfl rfl rfl rfl Try.sizeOf35 rfl (.inl (Nat.zero_le _)) rfl ?_
          refine g_nil ?_
          refine d_then ?_
          refine c_seq ?_
          refine c_seq ?_
          refine c_region ?_
          refine g_v rfl (r_field (n := 0) Try.underlying35 rfl Try.sizeOf3 rfl rfl) ?_
          refine g_v rfl (r_load (tag := 5) rfl rfl rfl Try.isAgg3) ?_
          refine g_v rfl (r_move) ?_
          refine g_v rfl (r_lss rfl rfl) ?_
          refine g_v rfl (r_move) ?_
          refine g_if rfl rfl rfl rfl rfl (fun h37 => ?_) (fun h37 => ?_)
          · have h37' := h37
            try simp only [Bool.not_true, Bool.not_false, decide_eq_true_eq, decide_eq_false_iff_not, Bool.not_eq_true', Bool.not_eq_false', within_t, within_f] at h37'
            refine g_v rfl (r_field (n := 0) Try.underlying35 rfl Try.sizeOf3 rfl rfl) ?_
            refine g_do rfl rfl rfl rfl rfl h37 ?_
            refine g_v rfl (r_load (tag := 5) rfl rfl rfl Try.isAgg3) ?_
            refine g_do rfl rfl rfl rfl rfl h37 ?_
            refine g_callN Try.call71 rfl rfl (fun W hS => within_con (hS.toFact.imp fun _ _ => trivial) (l.getD k Ent.zero).term) (fun _ _ => ?_)
            refine g_do rfl rfl rfl rfl rfl h37 ?_
            refine g_v rfl (r_not rfl) ?_
            refine g_v rfl (r_pick0 rfl h37) ?_
            refine g_v rfl (r_move) ?_
            refine g_if rfl rfl rfl rfl rfl (fun h43 => ?_) (fun h43 => ?_)
            · have h43' := h43
              try simp only [Bool.not_true, Bool.not_false, decide_eq_true_eq, decide_eq_false_iff_not, Bool.not_eq_true', Bool.not_eq_false', within_t, within_f] at h43'
              refine g_v rfl (r_field (n := 1) Try.underlying35 rfl Try.sizeOf3 rfl rfl) ?_
              refine g_do rfl rfl rfl rfl rfl h43 ?_
              refine g_v rfl (r_load (tag := 5) rfl rfl rfl Try.isAgg3) ?_
              refine g_do rfl rfl rfl rfl rfl h43 ?_
              refine g_v rfl (r_lss rfl rfl) ?_
              refine g_v rfl (r_pick0 rfl h43) ?_
              refine g_v rfl (r_move) ?_
              refine g_if rfl rfl rfl rfl rfl (fun h48 => ?_) (fun h48 => ?_)
              · have h48' := h48
                try simp only [Bool.not_true, Bool.not_false, decide_eq_true_eq, decide_eq_false_iff_not, Bool.not_eq_true', Bool.not_eq_false', within_t, within_f] at h48'
                refine g_v rfl (r_field (n := 1) Try.underlying35 rfl Try.sizeOf3 rfl rfl) ?_
                refine g_do rfl rfl rfl rfl rfl h48 ?_
                refine g_v rfl (r_load (tag := 5) rfl rfl rfl Try.isAgg3) ?_
                refine g_do rfl rfl rfl rfl rfl h48 ?_
                refine g_v rfl (r_gtr rfl rfl) ?_
                refine g_v rfl (r_pick0 rfl h48) ?_
                refine g_v rfl (r_move) ?_
                refine g_if rfl rfl rfl rfl rfl (fun h53 => ?_) (fun h53 => ?_)
                · have h53' := h53
                  try simp only [Bool.not_true, Bool.not_false, decide_eq_true_eq, decide_eq_false_iff_not, Bool.not_eq_true', Bool.not_eq_false', within_t, within_f] at h53'
                  refine g_v rfl (r_field (n := 2) Try.underlying35 rfl Try.sizeOf9 rfl rfl) ?_
                  refine g_do rfl rfl rfl rfl rfl h53 ?_
                  refine g_v rfl (r_load (tag := 5) rfl rfl rfl Try.isAgg9) ?_
                  refine g_do rfl rfl rfl rfl rfl h53 ?_
                  refine g_v rfl (r_len Try.underlying9 rfl) ?_
                  refine g_do rfl rfl rfl rfl rfl h53 ?_
                  refine g_v rfl (r_gtr rfl rfl) ?_
                  refine g_v rfl (r_pick0 rfl h53) ?_
                  refine g_nil ?_
                  refine d_then ?_
                  refine c_flat [(5, .pointer _), (27, .slice _ _ _), (28, .int .i64 _), (29, .int .i64 _), (58, .bool _)] ⟨rfl, rfl, rfl, rfl, rfl, trivial⟩ (fun u => ?_)
                  refine c_sta ⟨w, M, [(5, _, .cells #[.int .i64 _, .int .i64 _, .string _] _ _), (1, _, .cells #[.int .i64 _, .int .i64 _, .slice _ _ _] _ _)], _, _⟩ (fun _ h => h) ?_
                  refine c_cond rfl (fun h58 => ?_) (fun h58 => ?_)
                  · have h58' := h58
                    try simp only [Bool.not_true, Bool.not_false, decide_eq_true_eq, decide_eq_false_iff_not, Bool.not_eq_true', Bool.not_eq_false', within_t, within_f] at h58'
                    refine c_seq ?_
                    refine c_region ?_
                    refine g_v rfl (r_assign) ?_
                    refine g_nil ?_
                    refine d_then ?_
                    refine c_ret ?_
                    refine d_ret_then ?_
                    refine d_ret_block ?_
                    refine d_ret_then ?_
                    refine d_ret_then ?_
                    refine d_ret_block ?_
                    refine d_ret_then ?_
                    refine d_retR () Try.results19 ?_ trivial (fun _ _ => trivial) (.inr rfl)
                    refine res_tmp ?_
                    refine res_nil ?_
                    exact congrArg (Value.int .i64) (check_no (fun hok => by have hokk := hok.2.2.2 k hk1; unfold entOk at hokk; obtain ⟨e1, e2, e3, e4, e5, e6⟩ := hokk; rw [hpt] at e1; simp only [within_t] at e2; omega))
                  · have h58' := h58
                    try simp only [Bool.not_true, Bool.not_false, decide_eq_true_eq, decide_eq_false_iff_not, Bool.not_eq_true', Bool.not_eq_false', within_t, within_f] at h58'
                    refine c_skip ?_
                    refine d_then ?_
                    refine c_seq ?_
                    refine c_region ?_
                    refine g_v rfl (r_field (n := 2) Try.underlying35 rfl Try.sizeOf9 rfl rfl) ?_
                    refine g_v rfl (r_load (tag := 5) rfl rfl rfl Try.isAgg9) ?_
                    refine g_callN Try.call23 rfl rfl (fun W hS => List_con (hS.toFact.imp fun _ _ => trivial) (l.getD k Ent.zero).data hdk) (fun x _ => ?_)
                    refine g_v rfl (r_move) ?_
                    refine g_v rfl (r_extract rfl rfl) ?_
                    refine g_v rfl (r_extract rfl rfl) ?_
                    refine g_v rfl (r_assign) ?_
                    refine g_v rfl (r_assign) ?_
                    refine g_nil ?_
                    refine d_then ?_
                    refine c_seq ?_
                    refine c_seq ?_
                    refine c_region ?_
                    refine g_v rfl (r_field (n := 1) Try.underlying35 rfl Try.sizeOf3 rfl rfl) ?_
                    refine g_v rfl (r_load (tag := 5) rfl rfl rfl Try.isAgg3) ?_
                    refine g_v rfl (r_eql rfl rfl) ?_
                    refine g_v rfl (r_move) ?_
                    refine g_if rfl rfl rfl rfl rfl (fun h68 => ?_) (fun h68 => ?_)
                    · have h68' := h68
                      try simp only [Bool.not_true, Bool.not_false, decide_eq_true_eq, decide_eq_false_iff_not, Bool.not_eq_true', Bool.not_eq_false', within_t, within_f] at h68'
                      refine g_v rfl (r_move) ?_
                      refine g_do rfl rfl rfl rfl rfl h68 ?_
                      refine g_v rfl (r_not rfl) ?_
                      refine g_v rfl (r_pick1 rfl h68) ?_
                      refine g_nil ?_
                      refine d_then ?_
                      refine c_flat [(5, .pointer _), (27, .slice _ _ _), (28, .int .i64 _), (29, .int .i64 _), (71, .bool _)] ⟨rfl, rfl, rfl, rfl, rfl, trivial⟩ (fun u => ?_)
                      refine c_sta ⟨w, M, [(5, _, .cells #[.int .i64 _, .int .i64 _, .string _] _ _), (1, _, .cells #[.int .i64 _, .int .i64 _, .slice _ _ _] _ _)], _, _⟩ (fun _ h => h) ?_
                      refine c_cond rfl (fun h71 => ?_) (fun h71 => ?_)
                      · have h71' := h71
                        try simp only [Bool.not_true, Bool.not_false, decide_eq_true_eq, decide_eq_false_iff_not, Bool.not_eq_true', Bool.not_eq_false', within_t, within_f] at h71'
                        refine c_seq ?_
                        refine c_region ?_
                        refine g_v rfl (r_assign) ?_
                        refine g_nil ?_
                        refine d_then ?_
                        refine c_ret ?_
                        refine d_ret_then ?_
                        refine d_ret_block ?_
                        refine d_ret_then ?_
                        refine d_ret_then ?_
                        refine d_ret_block ?_
                        refine d_ret_then ?_
                        refine d_retR () Try.results19 ?_ trivial (fun _ _ => trivial) (.inr rfl)
                        refine res_tmp ?_
                        refine res_nil ?_
                        exact congrArg (Value.int .i64) (check_no (fun hok => by have hokk := hok.2.2.2 k hk1; unfold entOk at hokk; obtain ⟨e1, e2, e3, e4, e5, e6⟩ := hokk; rw [hpt] at e1; simp only [within_t] at e2; have := e6 (by omega); rw [this] at h71'; exact absurd h71' (by decide)))
                      · have h71' := h71
                        try simp only [Bool.not_true, Bool.not_false, decide_eq_true_eq, decide_eq_false_iff_not, Bool.not_eq_true', Bool.not_eq_false', within_t, within_f] at h71'
                        refine c_skip ?_
                        refine d_then ?_
                        refine c_region ?_
                        refine g_v rfl (r_field (n := 0) Try.underlying35 rfl Try.sizeOf3 rfl rfl) ?_
                        refine g_v rfl (r_load (tag := 5) rfl rfl rfl Try.isAgg3) ?_
                        refine g_v rfl (r_assign) ?_
                        refine g_nil ?_
                        refine d_normal_block ?_
                        refine d_then ?_
                        refine c_region ?_
                        refine g_v rfl (r_add rfl rfl (by first | exact IntWalk.i64_in _ (by omega) | rfl)) ?_
                        refine g_v rfl (r_move) ?_
                        refine g_nil ?_
                        have hok : entOk (prevT t l k) (l.getD k Ent.zero) := ⟨by omega, (within_t _).2 (by omega), by omega, by omega, by omega, fun hk => by first | omega | simpa using h71⟩
                        exact d_round (k + 1) ⟨by omega, fun j hj => by rcases Nat.lt_or_ge j k with h0 | h0; exact hgo j h0; exact (show j = k from by omega) ▸ hok⟩ (by omega) ⟨rfl, rfl, rfl, rfl, trivial⟩ (fun _ h => h.dropH (t := 5) rfl)
                    · have h68' := h68
                      try simp only [Bool.not_true, Bool.not_false, decide_eq_true_eq, decide_eq_false_iff_not, Bool.not_eq_true', Bool.not_eq_false', within_t, within_f] at h68'
                      refine g_no rfl rfl rfl rfl rfl h68 ?_
                      refine g_v rfl (r_pick0 rfl h68) ?_
                      refine g_nil ?_
                      refine d_then ?_
                      refine c_flat [(5, .pointer _), (27, .slice _ _ _), (28, .int .i64 _), (29, .int .i64 _), (71, .bool _)] ⟨rfl, rfl, rfl, rfl, rfl, trivial⟩ (fun u => ?_)
                      refine c_sta ⟨w, M, [(5, _, .cells #[.int .i64 _, .int .i64 _, .string _] _ _), (1, _, .cells #[.int .i64 _, .int .i64 _, .slice _ _ _] _ _)], _, _⟩ (fun _ h => h) ?_
                      refine c_cond0 rfl rfl ?_
                      refine c_skip ?_
                      refine d_then ?_
                      refine c_region ?_
                      refine g_v rfl (r_field (n := 0) Try.underlying35 rfl Try.sizeOf3 rfl rfl) ?_
                      refine g_v rfl (r_load (tag := 5) rfl rfl rfl Try.isAgg3) ?_
                      refine g_v rfl (r_assign) ?_
                      refine g_nil ?_
                      refine d_normal_block ?_
                      refine d_then ?_
                      refine c_region ?_
                      refine g_v rfl (r_add rfl rfl (by first | exact IntWalk.i64_in _ (by omega) | rfl)) ?_
                      refine g_v rfl (r_move) ?_
                      refine g_nil ?_
                      have hok : entOk (prevT t l k) (l.getD k Ent.zero) := ⟨by omega, (within_t _).2 (by omega), by omega, by omega, by omega, fun hk => by omega⟩
                      exact d_round (k + 1) ⟨by omega, fun j hj => by rcases Nat.lt_or_ge j k with h0 | h0; exact hgo j h0; exact (show j = k from by omega) ▸ hok⟩ (by omega) ⟨rfl, rfl, rfl, rfl, trivial⟩ (fun _ h => h.dropH (t := 5) rfl)
                · have h53' := h53
                  try simp only [Bool.not_true, Bool.not_false, decide_eq_true_eq, decide_eq_false_iff_not, Bool.not_eq_true', Bool.not_eq_false', within_t, within_f] at h53'
                  refine g_no rfl rfl rfl rfl rfl h53 ?_
                  refine g_no rfl rfl rfl rfl rfl h53 ?_
                  refine g_no rfl rfl rfl rfl rfl h53 ?_
                  refine g_v rfl (r_pick1 rfl h53) ?_
                  refine g_nil ?_
                  refine d_then ?_
                  refine c_flat [(5, .pointer _), (27, .slice _ _ _), (28, .int .i64 _), (29, .int .i64 _), (58, .bool _)] ⟨rfl, rfl, rfl, rfl, rfl, trivial⟩ (fun u => ?_)
                  refine c_sta ⟨w, M, [(5, _, .cells #[.int .i64 _, .int .i64 _, .string _] _ _), (1, _, .cells #[.int .i64 _, .int .i64 _, .slice _ _ _] _ _)], _, _⟩ (fun _ h => h) ?_
                  refine c_cond1 rfl rfl ?_
                  refine c_seq ?_
                  refine c_region ?_
                  refine g_v rfl (r_assign) ?_
                  refine g_nil ?_
                  refine d_then ?_
                  refine c_ret ?_
                  refine d_ret_then ?_
                  refine d_ret_block ?_
                  refine d_ret_then ?_
                  refine d_ret_then ?_
                  refine d_ret_block ?_
                  refine d_ret_then ?_
                  refine d_retR () Try.results19 ?_ trivial (fun _ _ => trivial) (.inr rfl)
                  refine res_tmp ?_
                  refine res_nil ?_
                  exact congrArg (Value.int .i64) (check_no (fun hok => by have hokk := hok.2.2.2 k hk1; unfold entOk at hokk; obtain ⟨e1, e2, e3, e4, e5, e6⟩ := hokk; rw [hpt] at e1; simp only [within_t] at e2; omega))
              · have h48' := h48
                try simp only [Bool.not_true, Bool.not_false, decide_eq_true_eq, decide_eq_false_iff_not, Bool.not_eq_true', Bool.not_eq_false', within_t, within_f] at h48'
                refine g_no rfl rfl rfl rfl rfl h48 ?_
                refine g_no rfl rfl rfl rfl rfl h48 ?_
                refine g_v rfl (r_pick1 rfl h48) ?_
                refine g_v rfl (r_move) ?_
                refine g_no rfl rfl rfl rfl rfl rfl ?_
                refine g_no rfl rfl rfl rfl rfl rfl ?_
                refine g_no rfl rfl rfl rfl rfl rfl ?_
                refine g_no rfl rfl rfl rfl rfl rfl ?_
                refine g_v rfl (r_pick1 rfl rfl) ?_
                refine g_nil ?_
                refine d_then ?_
                refine c_flat [(5, .pointer _), (27, .slice _ _ _), (28, .int .i64 _), (29, .int .i64 _), (58, .bool _)] ⟨rfl, rfl, rfl, rfl, rfl, trivial⟩ (fun u => ?_)
                refine c_sta ⟨w, M, [(5, _, .cells #[.int .i64 _, .int .i64 _, .string _] _ _), (1, _, .cells #[.int .i64 _, .int .i64 _, .slice _ _ _] _ _)], _, _⟩ (fun _ h => h) ?_
                refine c_cond1 rfl rfl ?_
                refine c_seq ?_
                refine c_region ?_
                refine g_v rfl (r_assign) ?_
                refine g_nil ?_
                refine d_then ?_
                refine c_ret ?_
                refine d_ret_then ?_
                refine d_ret_block ?_
                refine d_ret_then ?_
                refine d_ret_then ?_
                refine d_ret_block ?_
                refine d_ret_then ?_
                refine d_retR () Try.results19 ?_ trivial (fun _ _ => trivial) (.inr rfl)
                refine res_tmp ?_
                refine res_nil ?_
                exact congrArg (Value.int .i64) (check_no (fun hok => by have hokk := hok.2.2.2 k hk1; unfold entOk at hokk; obtain ⟨e1, e2, e3, e4, e5, e6⟩ := hokk; rw [hpt] at e1; simp only [within_t] at e2; omega))
            · have h43' := h43
              try simp only [Bool.not_true, Bool.not_false, decide_eq_true_eq, decide_eq_false_iff_not, Bool.not_eq_true', Bool.not_eq_false', within_t, within_f] at h43'
              refine g_no rfl rfl rfl rfl rfl h43 ?_
              refine g_no rfl rfl rfl rfl rfl h43 ?_
              refine g_v rfl (r_pick1 rfl h43) ?_
              refine g_v rfl (r_move) ?_
              refine g_no rfl rfl rfl rfl rfl rfl ?_
              refine g_no rfl rfl rfl rfl rfl rfl ?_
              refine g_no rfl rfl rfl rfl rfl rfl ?_
              refine g_v rfl (r_pick1 rfl rfl) ?_
              refine g_v rfl (r_move) ?_
              refine g_no rfl rfl rfl rfl rfl rfl ?_
              refine g_no rfl rfl rfl rfl rfl rfl ?_
              refine g_no rfl rfl rfl rfl rfl rfl ?_
              refine g_no rfl rfl rfl rfl rfl rfl ?_
              refine g_v rfl (r_pick1 rfl rfl) ?_
              refine g_nil ?_
              refine d_then ?_
              refine c_flat [(5, .pointer _), (27, .slice _ _ _), (28, .int .i64 _), (29, .int .i64 _), (58, .bool _)] ⟨rfl, rfl, rfl, rfl, rfl, trivial⟩ (fun u => ?_)
              refine c_sta ⟨w, M, [(5, _, .cells #[.int .i64 _, .int .i64 _, .string _] _ _), (1, _, .cells #[.int .i64 _, .int .i64 _, .slice _ _ _] _ _)], _, _⟩ (fun _ h => h) ?_
              refine c_cond1 rfl rfl ?_
              refine c_seq ?_
              refine c_region ?_
              refine g_v rfl (r_assign) ?_
              refine g_nil ?_
              refine d_then ?_
              refine c_ret ?_
              refine d_ret_then ?_
              refine d_ret_block ?_
              refine d_ret_then ?_
              refine d_ret_then ?_
              refine d_ret_block ?_
              refine d_ret_then ?_
              refine d_retR () Try.results19 ?_ trivial (fun _ _ => trivial) (.inr rfl)
              refine res_tmp ?_
              refine res_nil ?_
              exact congrArg (Value.int .i64) (check_no (fun hok => by have hokk := hok.2.2.2 k hk1; unfold entOk at hokk; obtain ⟨e1, e2, e3, e4, e5, e6⟩ := hokk; rw [hpt] at e1; simp only [within_t] at e2; omega))
          · have h37' := h37
            try simp only [Bool.not_true, Bool.not_false, decide_eq_true_eq, decide_eq_false_iff_not, Bool.not_eq_true', Bool.not_eq_false', within_t, within_f] at h37'
            refine g_no rfl rfl rfl rfl rfl h37 ?_
            refine g_no rfl rfl rfl rfl rfl h37 ?_
            refine g_no rfl rfl rfl rfl rfl h37 ?_
            refine g_v rfl (r_pick1 rfl h37) ?_
            refine g_v rfl (r_move) ?_
            refine g_no rfl rfl rfl rfl rfl rfl ?_
            refine g_no rfl rfl rfl rfl rfl rfl ?_
            refine g_no rfl rfl rfl rfl rfl rfl ?_
            refine g_v rfl (r_pick1 rfl rfl) ?_
            refine g_v rfl (r_move) ?_
            refine g_no rfl rfl rfl rfl rfl rfl ?_
            refine g_no rfl rfl rfl rfl rfl rfl ?_
            refine g_no rfl rfl rfl rfl rfl rfl ?_
            refine g_v rfl (r_pick1 rfl rfl) ?_
            refine g_v rfl (r_move) ?_
            refine g_no rfl rfl rfl rfl rfl rfl ?_
            refine g_no rfl rfl rfl rfl rfl rfl ?_
            refine g_no rfl rfl rfl rfl rfl rfl ?_
            refine g_no rfl rfl rfl rfl rfl rfl ?_
            refine g_v rfl (r_pick1 rfl rfl) ?_
            refine g_nil ?_
            refine d_then ?_
            refine c_flat [(5, .pointer _), (27, .slice _ _ _), (28, .int .i64 _), (29, .int .i64 _), (58, .bool _)] ⟨rfl, rfl, rfl, rfl, rfl, trivial⟩ (fun u => ?_)
            refine c_sta ⟨w, M, [(5, _, .cells #[.int .i64 _, .int .i64 _, .string _] _ _), (1, _, .cells #[.int .i64 _, .int .i64 _, .slice _ _ _] _ _)], _, _⟩ (fun _ h => h) ?_
            refine c_cond1 rfl rfl ?_
            refine c_seq ?_
            refine c_region ?_
            refine g_v rfl (r_assign) ?_
            refine g_nil ?_
            refine d_then ?_
            refine c_ret ?_
            refine d_ret_then ?_
            refine d_ret_block ?_
            refine d_ret_then ?_
            refine d_ret_then ?_
            refine d_ret_block ?_
            refine d_ret_then ?_
            refine d_retR () Try.results19 ?_ trivial (fun _ _ => trivial) (.inr rfl)
            refine res_tmp ?_
            refine res_nil ?_
            exact congrArg (Value.int .i64) (check_no (fun hok => by have hokk := hok.2.2.2 k hk1; unfold entOk at hokk; obtain ⟨e1, e2, e3, e4, e5, e6⟩ := hokk; rw [hpt] at e1; simp only [within_t] at e2; omega))
        · have h30' := h30
          try simp only [Bool.not_true, Bool.not_false, decide_eq_true_eq, decide_eq_false_iff_not, Bool.not_eq_true', Bool.not_eq_false', within_t, within_f] at h30'
          have hke : k = l.length := by omega
          refine c_exit ?_
          refine d_exit_then ?_
          refine d_exit_then ?_
          refine d_exit_block ?_
          refine d_then ?_
          refine c_seq ?_
          refine c_region ?_
          refine g_v rfl (r_assign) ?_
          refine g_nil ?_
          refine d_then ?_
          refine c_ret ?_
          refine d_retR () Try.results19 ?_ trivial (fun _ _ => trivial) (.inr rfl)
          refine res_tmp ?_
          refine res_nil ?_
          exact congrArg (Value.int .i64) (check_ok ⟨(within_t b).2 (by omega), (within_t t).2 (by omega), by omega, fun j hj => hgo j (by omega)⟩)
    · have h18' := h18
      try simp only [Bool.not_true, Bool.not_false, decide_eq_true_eq, decide_eq_false_iff_not, Bool.not_eq_true', Bool.not_eq_false', within_t, within_f] at h18'
      refine g_no rfl rfl rfl rfl rfl h18 ?_
      refine g_no rfl rfl rfl rfl rfl h18 ?_
      refine g_no rfl rfl rfl rfl rfl h18 ?_
      refine g_v rfl (r_pick1 rfl h18) ?_
      refine g_nil ?_
      refine d_then ?_
      refine c_flat [(1, .pointer _), (23, .bool _)] ⟨rfl, rfl, trivial⟩ (fun u => ?_)
      refine c_sta ⟨w, M, [(1, _, .cells #[.int .i64 _, .int .i64 _, .slice _ _ _] _ _)], _, _⟩ (fun _ h => h) ?_
      refine c_cond1 rfl rfl ?_
      refine c_seq ?_
      refine c_region ?_
      refine g_v rfl (r_assign) ?_
      refine g_nil ?_
      refine d_then ?_
      refine c_ret ?_
      refine d_ret_then ?_
      refine d_retR () Try.results19 ?_ trivial (fun _ _ => trivial) (.inr rfl)
      refine res_tmp ?_
      refine res_nil ?_
      exact congrArg (Value.int .i64) (check_no (fun hok => by obtain ⟨ho1, ho2, ho3, _⟩ := hok; simp only [within_t] at ho1 ho2; omega))
  · have h12' := h12
    try simp only [Bool.not_true, Bool.not_false, decide_eq_true_eq, decide_eq_false_iff_not, Bool.not_eq_true', Bool.not_eq_false', within_t, within_f] at h12'
    refine g_no rfl rfl rfl rfl rfl h12 ?_
    refine g_no rfl rfl rfl rfl rfl h12 ?_
    refine g_no rfl rfl rfl rfl rfl h12 ?_
    refine g_v rfl (r_pick1 rfl h12) ?_
    refine g_v rfl (r_move) ?_
    refine g_no rfl rfl rfl rfl rfl rfl ?_
    refine g_no rfl rfl rfl rfl rfl rfl ?_
    refine g_no rfl rfl rfl rfl rfl rfl ?_
    refine g_no rfl rfl rfl rfl rfl rfl ?_
    refine g_v rfl (r_pick1 rfl rfl) ?_
    refine g_nil ?_
    refine d_then ?_
    refine c_flat [(1, .pointer _), (23, .bool _)] ⟨rfl, rfl, trivial⟩ (fun u => ?_)
    refine c_sta ⟨w, M, [(1, _, .cells #[.int .i64 _, .int .i64 _, .slice _ _ _] _ _)], _, _⟩ (fun _ h => h) ?_
    refine c_cond1 rfl rfl ?_
    refine c_seq ?_
    refine c_region ?_
    refine g_v rfl (r_assign) ?_
    refine g_nil ?_
    refine d_then ?_
    refine c_ret ?_
    refine d_ret_then ?_
    refine d_retR () Try.results19 ?_ trivial (fun _ _ => trivial) (.inr rfl)
    refine res_tmp ?_
    refine res_nil ?_
    exact congrArg (Value.int .i64) (check_no (fun hok => by obtain ⟨ho1, ho2, ho3, _⟩ := hok; simp only [within_t] at ho1 ho2; omega))
end Go.Proofs.Ytildknbbpkbkeaa
