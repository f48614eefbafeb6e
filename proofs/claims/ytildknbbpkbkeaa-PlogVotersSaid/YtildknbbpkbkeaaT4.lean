import Derived.Test.YtildknbbpkbkeaaT3
set_option maxRecDepth 16384
set_option maxHeartbeats 4000000
set_option linter.unusedVariables false
set_option linter.unusedSimpArgs false
namespace Go.Proofs.Ytildknbbpkbkeaa
open Go.RowKit

def putFrom (b t : Int) (l : List Ent) (prev : Int) : Nat → List Ent → Option Nat
  | _, [] => none
  | k, e :: r => if b < prev + 1 + k ∧ ((termI b t l (prev + 1 + k)).2 = false ∨ (termI b t l (prev + 1 + k)).1 ≠ e.term) then some k else putFrom b t l prev (k + 1) r
/-- What stands in a log behind a leader's entries: how many of them are there already, from the index behind prev on. -/
def putAt (b t : Int) (l : List Ent) (prev : Int) (es : List Ent) (k : Nat) : Option Nat := putFrom b t l prev k (es.drop k)
/-- The log and the index behind a Put. -/
def putI (b t : Int) (l : List Ent) (prev : Int) (es : List Ent) : List Ent × Int :=
  if prev < 0 ∨ b + l.length < prev then (l, 0) else match putAt b t l prev es 0 with
    | some k => (l.take (prev + k - b).toNat ++ es.drop k, prev + 1 + k)
    | none => (l, 0)


theorem putAt_end {b t : Int} {l : List Ent} {prev : Int} {es : List Ent} {k : Nat} (h : es.length ≤ k) : putAt b t l prev es k = none := by
  rw [putAt, List.drop_of_length_le h]; rfl
theorem putAt_here {b t : Int} {l : List Ent} {prev : Int} {es : List Ent} {k : Nat} (h : k < es.length) (h1 : b < prev + 1 + k) (h2 : (termI b t l (prev + 1 + k)).2 = false ∨ (termI b t l (prev + 1 + k)).1 ≠ es[k].term) : putAt b t l prev es k = some k := by
  rw [putAt, List.drop_eq_getElem_cons h, putFrom, if_pos ⟨h1, h2⟩]
theorem putAt_on {b t : Int} {l : List Ent} {prev : Int} {es : List Ent} {k : Nat} (h : k < es.length) (h1 : ¬ (b < prev + 1 + k ∧ ((termI b t l (prev + 1 + k)).2 = false ∨ (termI b t l (prev + 1 + k)).1 ≠ es[k].term))) : putAt b t l prev es k = putAt b t l prev es (k + 1) := by
  rw [putAt, List.drop_eq_getElem_cons h, putFrom, if_neg h1]; rfl


theorem putI_some {b t : Int} {l : List Ent} {prev : Int} {es : List Ent} {k : Nat} (h : ¬ (prev < 0 ∨ b + l.length < prev)) (hk : putAt b t l prev es 0 = some k) : putI b t l prev es = (l.take (prev + k - b).toNat ++ es.drop k, prev + 1 + k) := by
  simp only [putI, if_neg h, hk]
theorem putI_len {l : List Ent} {es : List Ent} {k n : Nat} {i : Int} (h : n ≤ l.length) : (l.take n ++ es.drop k, i).1.length = n + (es.drop k).length := by
  simp only [List.length_append, List.length_take]; omega
theorem termI_in {b t : Int} {l : List Ent} {i : Int} (h : (termI b t l i).2 = true) : i ≤ b + l.length := by
  simp only [termI, getI] at h
  split at h
  · omega
  · split at h
    · omega
    · exact absurd h (by decide)

theorem Put_con {M : Nat → Prop} {w : World} (b t : Int) (A : Option Addr) (c : Nat) (l : List Ent) (A1 : Option Addr) (c1 : Nat) (es : List Ent) (prev : Int) (hF : Fact w M (fun W => Cl W A (ents l) ∧ Cl W A1 (ents es))) (hc : l.length ≤ c) (hc1 : es.length ≤ c1) (hb : Bd b l) (hl : (l.length + es.length) * 32 ≤ 140737488355328) :
    Con Try.prog 20 #[.agg #[.int .i64 b, .int .i64 t, .slice A l.length c], .int .i64 prev, .slice A1 es.length c1] w M (fun x : Option Addr × Nat => .tuple #[.agg #[.int .i64 b, .int .i64 t, .slice x.1 (putI b t l prev es).1.length x.2], .int .i64 (putI b t l prev es).2]) (fun x => (putI b t l prev es).1.length ≤ x.2) (fun x W => Cl W x.1 (ents (putI b t l prev es).1)) := by
  obtain ⟨hb1, hb2, hb3⟩ := id hb
  refine con_intro (fn := Try.f20) (N := 64) Try.func20 rfl Try.ntmps20 hF rfl ?_
  refine c_seq ?_
  refine c_region ?_
  refine g_box rfl rfl (fun g3 => ?_)
  refine g_alloc rfl Try.zeroValue26 (fun g6 => ?_)
  refine g_v rfl (r_assign) ?_
  refine g_nil ?_
  refine d_then ?_
  refine c_seq ?_
  refine c_seq ?_
  refine c_region ?_
  refine g_v rfl (r_move) ?_
  refine g_v rfl (r_lss rfl rfl) ?_
  refine g_v rfl (r_move) ?_
  refine g_if rfl rfl rfl rfl rfl (fun h15 => ?_) (fun h15 => ?_)
  · have h15' := h15
    try simp only [Bool.not_true, Bool.not_false, decide_eq_true_eq, decide_eq_false_iff_not, Bool.not_eq_true', Bool.not_eq_false'] at h15'
    refine g_v rfl (r_move) ?_
    refine g_do rfl rfl rfl rfl rfl h15 ?_
    refine g_v rfl (r_loadA (tag := 3) rfl rfl Try.isAgg26 Try.sizeOf26 rfl rfl) ?_
    refine g_do rfl rfl rfl rfl rfl h15 ?_
    refine g_call Try.call38 rfl rfl (fun W hS => Last_con hS.toFact b t A c l hb) (fun _ _ => ?_)
    refine g_do rfl rfl rfl rfl rfl h15 ?_
    refine g_v rfl (r_gtr rfl rfl) ?_
    refine g_v rfl (r_pick0 rfl h15) ?_
    refine g_nil ?_
    refine d_then ?_
    refine c_cond rfl (fun h20 => ?_) (fun h20 => ?_)
    · have h20' := h20
      try simp only [Bool.not_true, Bool.not_false, decide_eq_true_eq, decide_eq_false_iff_not, Bool.not_eq_true', Bool.not_eq_false'] at h20'
      refine c_seq ?_
      have hprev : prev < 0 ∨ b + l.length < prev := by omega
      refine c_region ?_
      refine g_v rfl (r_loadA (tag := 3) rfl rfl Try.isAgg26 Try.sizeOf26 rfl rfl) ?_
      refine g_store (tag := 6) rfl rfl rfl rfl Try.sizeOf26 rfl (.inl (Nat.zero_le _)) rfl ?_
      refine g_v rfl (r_assign) ?_
      refine g_nil ?_
      refine d_then ?_
      refine c_ret ?_
      refine d_ret_then ?_
      refine d_retR (A, c) Try.results20 ?_ (by simp only [putI, if_pos hprev]; exact hc) (fun _ h => by simp only [putI, if_pos hprev]; first | exact h.1 | exact h.1.1 | exact h.1.1.1) (.inr rfl)
      refine res_agg (tag := 6) rfl rfl Try.isAgg26 Try.sizeOf26 ?_
      refine res_tmp ?_
      refine res_nil ?_
      simp only [putI, if_pos hprev]; exact rfl
    · have h20' := h20
      try simp only [Bool.not_true, Bool.not_false, decide_eq_true_eq, decide_eq_false_iff_not, Bool.not_eq_true', Bool.not_eq_false'] at h20'
      refine c_skip ?_
      refine d_then ?_
      refine c_seq ?_
      refine c_seq ?_
      have hprev : ¬ (prev < 0 ∨ b + l.length < prev) := by omega
      refine c_region ?_
      refine g_v rfl (r_move) ?_
      refine g_v rfl (r_lenL Try.underlying24 rfl) ?_
      refine g_v rfl (r_move) ?_
      refine g_nil ?_
      refine d_then ?_
      refine c_block ?_
      refine c_loopS (ι := Nat) [1, 2, 3, 6, 22, 23, 24] (fun k => [(24, Value.int .i64 (k : Int))]) (fun k => k ≤ es.length ∧ prev + k ≤ b + l.length ∧ putAt b t l prev es 0 = putAt b t l prev es k) (fun k => es.length - k) 0 ⟨Nat.zero_le _, by omega, rfl⟩ ⟨rfl, rfl, rfl, rfl, rfl, rfl, rfl, trivial⟩ (fun k u hI => ?_)
      obtain ⟨hk, hkl, hat⟩ := hI
      refine c_seq ?_
      refine c_region ?_
      refine g_v rfl (r_lss rfl rfl) ?_
      refine g_nil ?_
      refine d_then ?_
      refine c_seq ?_
      refine c_cond rfl (fun h25 => ?_) (fun h25 => ?_)
      · have h25' := h25
        simp only [decide_eq_true_eq, decide_eq_false_iff_not] at h25'
        have hk1 : k < es.length := by omega
        obtain ⟨ad, hA1⟩ := hF.now.2.is_some (by rw [ents_length]; omega)
        refine c_skip ?_
        refine d_then ?_
        refine c_seq ?_
        refine c_block ?_
        refine c_seq ?_
        refine c_region ?_
        refine g_v rfl (r_move) ?_
        refine g_v rfl (r_elem Try.underlying24 Try.sizeOf35 rfl hA1 rfl (by omega) (by omega)) ?_
        refine g_v rfl (r_loadFA rfl Try.isAgg35 Try.sizeOf35 (fun W h => ents_at h.1.2 hA1 k hk1) rfl) ?_
        refine g_alloc rfl Try.zeroValue35 (fun g9 => ?_)
        refine g_v rfl (r_assign) ?_
        refine g_store (tag := 9) rfl rfl rfl rfl Try.sizeOf35 rfl (.inl (Nat.zero_le _)) rfl ?_
        refine g_nil ?_
        refine d_then ?_
        refine c_seq ?_
        refine c_region ?_
        refine g_v rfl (r_move) ?_
        refine g_v rfl (r_add rfl rfl (by first | exact IntWalk.i64_in _ (by omega) | rfl)) ?_
        refine g_v rfl (r_move) ?_
        refine g_v rfl (r_add rfl rfl (by first | exact IntWalk.i64_in _ (by omega) | rfl)) ?_
        refine g_v rfl (r_assign) ?_
        refine g_nil ?_
        refine d_then ?_
        refine c_seq ?_
        refine c_region ?_
        refine g_v rfl (r_loadA (tag := 3) rfl rfl Try.isAgg26 Try.sizeOf26 rfl rfl) ?_
        refine g_v rfl (r_move) ?_
        refine g_call Try.call31 rfl rfl (fun W hS => Term_con b t A c l (hS.toFact.imp fun _ h => h.1.1) hb (prev + 1 + k)) (fun _ _ => ?_)
        refine g_v rfl (r_move) ?_
        refine g_v rfl (r_extract rfl rfl) ?_
        refine g_v rfl (r_extract rfl rfl) ?_
        refine g_v rfl (r_assign) ?_
        refine g_v rfl (r_assign) ?_
        refine g_nil ?_
        refine d_then ?_
        refine c_seq ?_
        refine c_region ?_
        refine g_v rfl (r_move) ?_
        refine g_v rfl (r_field (n := 0) Try.underlying26 rfl Try.sizeOf3 rfl rfl) ?_
        refine g_v rfl (r_load (tag := 3) rfl rfl rfl Try.isAgg3) ?_
        refine g_v rfl (r_gtr rfl rfl) ?_
        refine g_v rfl (r_move) ?_
        refine g_if rfl rfl rfl rfl rfl (fun h43 => ?_) (fun h43 => ?_)
        · have h43' := h43
          try simp only [Bool.not_true, Bool.not_false, decide_eq_true_eq, decide_eq_false_iff_not, Bool.not_eq_true', Bool.not_eq_false'] at h43'
          refine g_v rfl (r_move) ?_
          refine g_do rfl rfl rfl rfl rfl h43 ?_
          refine g_v rfl (r_not rfl) ?_
          refine g_do rfl rfl rfl rfl rfl h43 ?_
          refine g_v rfl (r_move) ?_
          refine g_if rfl rfl rfl rfl rfl (fun h46 => ?_) (fun h46 => ?_)
          · have h46' := h46
            try simp only [Bool.not_true, Bool.not_false, decide_eq_true_eq, decide_eq_false_iff_not, Bool.not_eq_true', Bool.not_eq_false'] at h46'
            refine g_v rfl (r_move) ?_
            refine g_do rfl rfl rfl rfl rfl h46 ?_
            refine g_v rfl (r_field (n := 0) Try.underlying35 rfl Try.sizeOf3 rfl rfl) ?_
            refine g_do rfl rfl rfl rfl rfl h46 ?_
            refine g_v rfl (r_load (tag := 9) rfl rfl rfl Try.isAgg3) ?_
            refine g_do rfl rfl rfl rfl rfl h46 ?_
            refine g_v rfl (r_neq rfl rfl) ?_
            refine g_do rfl rfl rfl rfl rfl h43 ?_
            refine g_v rfl (r_pick0 rfl h46) ?_
            refine g_v rfl (r_pick1 rfl h43) ?_
            refine g_nil ?_
            refine d_then ?_
            refine c_cond rfl (fun h52 => ?_) (fun h52 => ?_)
            · have h52' := h52
              try simp only [Bool.not_true, Bool.not_false, decide_eq_true_eq, decide_eq_false_iff_not, Bool.not_eq_true', Bool.not_eq_false'] at h52'
              refine c_seq ?_
              have hput : putI b t l prev es = (l.take (prev + k - b).toNat ++ es.drop k, prev + 1 + k) := putI_some hprev (by rw [hat]; exact putAt_here hk1 (by omega) (.inr (by simpa using h52')))
              have hlen : (l.take (prev + k - b).toNat ++ es.drop k, prev + 1 + (k : Int)).1.length = (prev + k - b).toNat + (es.drop k).length := putI_len (by omega)
              refine ga_start (n := 11) _ [9] #[false, false, false, false, false, false, false, false, false, false, false] (fun _ h => h) mixed rfl rfl ?_
              refine ga_v (i := 0) #[true, false, false, false, false, false, false, false, false, false, false] rfl (by kernel_rfl) (fun _ _ _ _ h => h) rfl (r_loadA (tag := 3) rfl rfl Try.isAgg26 Try.sizeOf26 rfl rfl) ?_
              refine ga_v (i := 1) #[true, true, false, false, false, false, false, false, false, false, false] rfl (by kernel_rfl) (fun _ _ _ _ h => h) rfl (r_move) ?_
              refine ga_v (i := 2) #[true, true, true, false, false, false, false, false, false, false, false] rfl (by kernel_rfl) (fun _ _ _ _ h => h) rfl (r_sub rfl rfl (by first | exact IntWalk.i64_in _ (by omega) | rfl)) ?_
              refine ga_v (i := 4) #[true, true, true, false, true, false, false, false, false, false, false] rfl (by kernel_rfl) (fun _ _ _ _ h => h) rfl (r_move) ?_
              refine ga_v (i := 5) #[true, true, true, false, true, true, false, false, false, false, false] rfl (by kernel_rfl) (fun _ _ _ _ h => h) rfl (r_move) ?_
              refine ga_v (i := 6) #[true, true, true, false, true, true, true, false, false, false, false] rfl (by kernel_rfl) (fun _ _ _ _ h => h) rfl (r_cutLo' Try.underlying24 Try.sizeOf35 rfl rfl (by omega) (by omega) (by omega) rfl (m := (es.drop k).length) (by simp) rfl) ?_
              refine ga_p (i := 8) #[true, true, true, false, true, true, true, false, true, false, false] rfl (.inl rfl) (by kernel_rfl) (fun _ _ _ _ h => h) rfl ?_
              refine ga_call (i := 3) #[true, true, true, true, true, true, true, false, true, false, false] rfl (by kernel_rfl) (by decide) Try.call73 rfl rfl (fun W hS => upto_con hS.toFact b t A l.length c (prev + 1 + k - 1) (prev + k - b) ((IntWalk.i64_in _ (by omega)).trans (by omega)) (by omega) (by omega)) (fun _ _ => ?_)
              refine ga_call (i := 7) #[true, true, true, true, true, true, true, true, true, false, false] rfl (by kernel_rfl) (by decide) Try.call72 rfl rfl (fun W hS => Add_con b t A (prev + k - b).toNat (l.take (prev + k - b).toNat) _ (c1 - k) (es.drop k) (prev + k - b).toNat (es.drop k).length (by rw [List.length_take]; omega) rfl (hS.toFact.imp fun _ h => ⟨by rw [← ents_take]; exact h.1.1.1.1.take _, by rw [← ents_drop]; exact h.1.1.1.2.cutLo (sz := 3) (j := k) (c := c1) (by rw [ents_length]; omega)⟩) (Nat.le_refl _) (by rw [List.length_drop]; omega)) (fun ⟨A', c'⟩ hc' => ?_)
              refine ga_last (i := 9) (tag := 6) #[true, true, true, true, true, true, true, true, true, true, false] rfl (by kernel_rfl) (by decide) rfl rfl rfl rfl Try.sizeOf26 rfl (.inl (Nat.zero_le _)) rfl ?_
              refine gz_p (i := 10) #[true, true, true, true, true, true, true, true, true, true, true] rfl (.inr rfl) (by kernel_rfl) (fun _ _ _ _ h => h) rfl ?_
              refine gz_done (by kernel_rfl) ?_
              refine d_then ?_
              refine c_ret ?_
              refine d_ret_block ?_
              refine d_ret_then ?_
              refine d_ret_then ?_
              refine d_ret_block ?_
              refine d_ret_then ?_
              refine d_retR (A', c') Try.results20 ?_ (by rw [hput, hlen]; exact hc') (fun _ h => by rw [hput]; exact h.2) (.inr rfl)
              refine res_agg (tag := 6) rfl rfl Try.isAgg26 Try.sizeOf26 ?_
              refine res_tmp ?_
              refine res_nil ?_
              exact (show _ = Value.tuple #[.agg #[.int .i64 b, .int .i64 t, .slice A' ((prev + k - b).toNat + (es.drop k).length) c'], .int .i64 (prev + 1 + k)] from rfl).trans (by rw [hput, hlen])
            · have h52' := h52
              try simp only [Bool.not_true, Bool.not_false, decide_eq_true_eq, decide_eq_false_iff_not, Bool.not_eq_true', Bool.not_eq_false'] at h52'
              refine c_skip ?_
              refine d_normal_block ?_
              refine d_then ?_
              refine c_region ?_
              refine g_v rfl (r_add rfl rfl (by first | exact IntWalk.i64_in _ (by omega) | rfl)) ?_
              refine g_v rfl (r_move) ?_
              refine g_nil ?_
              have hno : ¬ (b < prev + 1 + k ∧ ((termI b t l (prev + 1 + k)).2 = false ∨ (termI b t l (prev + 1 + k)).1 ≠ es[k].term)) := by
                intro hx
                rcases hx.2 with hx1 | hx1
                · rw [hx1] at h46'; exact absurd h46' (by decide)
                · exact absurd hx1 (by simpa using h52')
              have hle : prev + 1 + k ≤ b + l.length := by
                exact termI_in (t := t) (by simpa using h46')
              exact d_round (k + 1) ⟨by omega, by omega, by rw [hat]; exact putAt_on hk1 hno⟩ (by omega) ⟨rfl, rfl, rfl, rfl, rfl, rfl, rfl, trivial⟩ (fun _ h => (h.dropH (t := 9) rfl).phi (fun _ h => h.1))
          · have h46' := h46
            try simp only [Bool.not_true, Bool.not_false, decide_eq_true_eq, decide_eq_false_iff_not, Bool.not_eq_true', Bool.not_eq_false'] at h46'
            refine g_no rfl rfl rfl rfl rfl h46 ?_
            refine g_no rfl rfl rfl rfl rfl h46 ?_
            refine g_no rfl rfl rfl rfl rfl h46 ?_
            refine g_do rfl rfl rfl rfl rfl h43 ?_
            refine g_v rfl (r_pick1 rfl h46) ?_
            refine g_v rfl (r_pick1 rfl h43) ?_
            refine g_nil ?_
            refine d_then ?_
            refine c_cond1 rfl rfl ?_
            refine c_seq ?_
            have hput : putI b t l prev es = (l.take (prev + k - b).toNat ++ es.drop k, prev + 1 + k) := putI_some hprev (by rw [hat]; exact putAt_here hk1 (by omega) (.inl (by simpa using h46')))
            have hlen : (l.take (prev + k - b).toNat ++ es.drop k, prev + 1 + (k : Int)).1.length = (prev + k - b).toNat + (es.drop k).length := putI_len (by omega)
            refine ga_start (n := 11) _ [9] #[false, false, false, false, false, false, false, false, false, false, false] (fun _ h => h) mixed rfl rfl ?_
            refine ga_v (i := 0) #[true, false, false, false, false, false, false, false, false, false, false] rfl (by kernel_rfl) (fun _ _ _ _ h => h) rfl (r_loadA (tag := 3) rfl rfl Try.isAgg26 Try.sizeOf26 rfl rfl) ?_
            refine ga_v (i := 1) #[true, true, false, false, false, false, false, false, false, false, false] rfl (by kernel_rfl) (fun _ _ _ _ h => h) rfl (r_move) ?_
            refine ga_v (i := 2) #[true, true, true, false, false, false, false, false, false, false, false] rfl (by kernel_rfl) (fun _ _ _ _ h => h) rfl (r_sub rfl rfl (by first | exact IntWalk.i64_in _ (by omega) | rfl)) ?_
            refine ga_v (i := 4) #[true, true, true, false, true, false, false, false, false, false, false] rfl (by kernel_rfl) (fun _ _ _ _ h => h) rfl (r_move) ?_
            refine ga_v (i := 5) #[true, true, true, false, true, true, false, false, false, false, false] rfl (by kernel_rfl) (fun _ _ _ _ h => h) rfl (r_move) ?_
            refine ga_v (i := 6) #[true, true, true, false, true, true, true, false, false, false, false] rfl (by kernel_rfl) (fun _ _ _ _ h => h) rfl (r_cutLo' Try.underlying24 Try.sizeOf35 rfl rfl (by omega) (by omega) (by omega) rfl (m := (es.drop k).length) (by simp) rfl) ?_
            refine ga_p (i := 8) #[true, true, true, false, true, true, true, false, true, false, false] rfl (.inl rfl) (by kernel_rfl) (fun _ _ _ _ h => h) rfl ?_
            refine ga_call (i := 3) #[true, true, true, true, true, true, true, false, true, false, false] rfl (by kernel_rfl) (by decide) Try.call73 rfl rfl (fun W hS => upto_con hS.toFact b t A l.length c (prev + 1 + k - 1) (prev + k - b) ((IntWalk.i64_in _ (by omega)).trans (by omega)) (by omega) (by omega)) (fun _ _ => ?_)
            refine ga_call (i := 7) #[true, true, true, true, true, true, true, true, true, false, false] rfl (by kernel_rfl) (by decide) Try.call72 rfl rfl (fun W hS => Add_con b t A (prev + k - b).toNat (l.take (prev + k - b).toNat) _ (c1 - k) (es.drop k) (prev + k - b).toNat (es.drop k).length (by rw [List.length_take]; omega) rfl (hS.toFact.imp fun _ h => ⟨by rw [← ents_take]; exact h.1.1.1.1.take _, by rw [← ents_drop]; exact h.1.1.1.2.cutLo (sz := 3) (j := k) (c := c1) (by rw [ents_length]; omega)⟩) (Nat.le_refl _) (by rw [List.length_drop]; omega)) (fun ⟨A', c'⟩ hc' => ?_)
            refine ga_last (i := 9) (tag := 6) #[true, true, true, true, true, true, true, true, true, true, false] rfl (by kernel_rfl) (by decide) rfl rfl rfl rfl Try.sizeOf26 rfl (.inl (Nat.zero_le _)) rfl ?_
            refine gz_p (i := 10) #[true, true, true, true, true, true, true, true, true, true, true] rfl (.inr rfl) (by kernel_rfl) (fun _ _ _ _ h => h) rfl ?_
            refine gz_done (by kernel_rfl) ?_
            refine d_then ?_
            refine c_ret ?_
            refine d_ret_block ?_
            refine d_ret_then ?_
            refine d_ret_then ?_
            refine d_ret_block ?_
            refine d_ret_then ?_
            refine d_retR (A', c') Try.results20 ?_ (by rw [hput, hlen]; exact hc') (fun _ h => by rw [hput]; exact h.2) (.inr rfl)
            refine res_agg (tag := 6) rfl rfl Try.isAgg26 Try.sizeOf26 ?_
            refine res_tmp ?_
            refine res_nil ?_
            exact (show _ = Value.tuple #[.agg #[.int .i64 b, .int .i64 t, .slice A' ((prev + k - b).toNat + (es.drop k).length) c'], .int .i64 (prev + 1 + k)] from rfl).trans (by rw [hput, hlen])
        · have h43' := h43
          try simp only [Bool.not_true, Bool.not_false, decide_eq_true_eq, decide_eq_false_iff_not, Bool.not_eq_true', Bool.not_eq_false'] at h43'
          refine g_no rfl rfl rfl rfl rfl h43 ?_
          refine g_no rfl rfl rfl rfl rfl h43 ?_
          refine g_nu rfl rfl rfl rfl rfl ?_
          refine g_nu rfl rfl rfl rfl rfl ?_
          refine g_nu rfl rfl rfl rfl rfl ?_
          refine g_nu rfl rfl rfl rfl rfl ?_
          refine g_no rfl rfl rfl rfl rfl h43 ?_
          refine g_v rfl (r_pick0 rfl h43) ?_
          refine g_nil ?_
          refine d_then ?_
          refine c_cond0 rfl rfl ?_
          refine c_skip ?_
          refine d_normal_block ?_
          refine d_then ?_
          refine c_region ?_
          refine g_v rfl (r_add rfl rfl (by first | exact IntWalk.i64_in _ (by omega) | rfl)) ?_
          refine g_v rfl (r_move) ?_
          refine g_nil ?_
          have hno : ¬ (b < prev + 1 + k ∧ ((termI b t l (prev + 1 + k)).2 = false ∨ (termI b t l (prev + 1 + k)).1 ≠ es[k].term)) := by
            intro hx
            omega
          have hle : prev + 1 + k ≤ b + l.length := by
            omega
          exact d_round (k + 1) ⟨by omega, by omega, by rw [hat]; exact putAt_on hk1 hno⟩ (by omega) ⟨rfl, rfl, rfl, rfl, rfl, rfl, rfl, trivial⟩ (fun _ h => (h.dropH (t := 9) rfl).phi (fun _ h => h.1))
      · have h25' := h25
        simp only [decide_eq_true_eq, decide_eq_false_iff_not] at h25'
        have hnone : putAt b t l prev es 0 = none := by rw [hat]; exact putAt_end (by omega)
        refine c_exit ?_
        refine d_exit_then ?_
        refine d_exit_then ?_
        refine d_exit_block ?_
        refine d_then ?_
        refine c_seq ?_
        refine c_region ?_
        refine g_v rfl (r_loadA (tag := 3) rfl rfl Try.isAgg26 Try.sizeOf26 rfl rfl) ?_
        refine g_store (tag := 6) rfl rfl rfl rfl Try.sizeOf26 rfl (.inl (Nat.zero_le _)) rfl ?_
        refine g_v rfl (r_assign) ?_
        refine g_nil ?_
        refine d_then ?_
        refine c_ret ?_
        refine d_retR (A, c) Try.results20 ?_ (by simp only [putI, if_neg hprev, hnone]; exact hc) (fun _ h => by simp only [putI, if_neg hprev, hnone]; first | exact h.1 | exact h.1.1 | exact h.1.1.1) (.inr rfl)
        refine res_agg (tag := 6) rfl rfl Try.isAgg26 Try.sizeOf26 ?_
        refine res_tmp ?_
        refine res_nil ?_
        simp only [putI, if_neg hprev, hnone]; exact rfl
  · have h15' := h15
    try simp only [Bool.not_true, Bool.not_false, decide_eq_true_eq, decide_eq_false_iff_not, Bool.not_eq_true', Bool.not_eq_false'] at h15'
    refine g_no rfl rfl rfl rfl rfl h15 ?_
    refine g_no rfl rfl rfl rfl rfl h15 ?_
    refine g_no rfl rfl rfl rfl rfl h15 ?_
    refine g_v rfl (r_pick1 rfl h15) ?_
    refine g_nil ?_
    refine d_then ?_
    refine c_cond1 rfl rfl ?_
    refine c_seq ?_
    have hprev : prev < 0 ∨ b + l.length < prev := by omega
    refine c_region ?_
    refine g_v rfl (r_loadA (tag := 3) rfl rfl Try.isAgg26 Try.sizeOf26 rfl rfl) ?_
    refine g_store (tag := 6) rfl rfl rfl rfl Try.sizeOf26 rfl (.inl (Nat.zero_le _)) rfl ?_
    refine g_v rfl (r_assign) ?_
    refine g_nil ?_
    refine d_then ?_
    refine c_ret ?_
    refine d_ret_then ?_
    refine d_retR (A, c) Try.results20 ?_ (by simp only [putI, if_pos hprev]; exact hc) (fun _ h => by simp only [putI, if_pos hprev]; first | exact h.1 | exact h.1.1 | exact h.1.1.1) (.inr rfl)
    refine res_agg (tag := 6) rfl rfl Try.isAgg26 Try.sizeOf26 ?_
    refine res_tmp ?_
    refine res_nil ?_
    simp only [putI, if_pos hprev]; exact rfl
end Go.Proofs.Ytildknbbpkbkeaa
