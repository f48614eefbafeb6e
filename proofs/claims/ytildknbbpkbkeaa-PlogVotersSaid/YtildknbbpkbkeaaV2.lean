import Derived.Test.YtildknbbpkbkeaaV1
set_option maxRecDepth 16384
set_option maxHeartbeats 4000000
set_option linter.unusedVariables false
set_option linter.unusedSimpArgs false
namespace Go.Proofs.Ytildknbbpkbkeaa
open Go.RowKit

section
variable {P : Program} {ops : Array Oper} {Q : Exit → Act → World → Prop} {N d : Nat} {σ : Fr} {S : Sta} {rest : List Oper} {ty t t' : TypeId} {pos : String} {af : Array Edge} {x y : Operand}
theorem run_eqNil {e : TypeId} (hu : P.underlying t = some (.slice e)) (d : Nat) (A : Option Addr) (n c : Nat) (W : World) : (Op.equalIn (d + 1) t (.slice A n c) (.slice none 0 0)).run P W = .ok A.isNone W := by
  cases A <;> simp [Op.equalIn, run_underlying hu]
/-- Is a slice nil? -/
theorem r_isNil {e : TypeId} {A : Option Addr} {n c : Nat} (hu : P.underlying t = some (.slice e)) (hx : ev σ x = .slice A n c) (hy : ev σ y = .slice none 0 0) : Rn P σ S (.binOp .eql t x y t') ty (.bool A.isNone) :=
  r_bin hx hy (fun W => by
    simp only [eqGuard, binOp, Op.equal, show Op.maxDepth = 9999 + 1 from rfl]
    simp [run_eqNil hu])
/-- An empty slice literal. -/
theorem g_lit0 {e : TypeId} (hN : Nat.blt d N = true) (hu : P.underlying t = some (.slice e)) (hi : (P.info? e).isSome = true) (h : ∀ g, G P ops Q N rest (up σ d (.slice (some ⟨g, 0, none⟩) 0 0)) S) :
    G P ops Q N (⟨some d, .buildSlice t 0 #[], ty, pos, af, none⟩ :: rest) σ S :=
  g_ev (fun g => .slice (some ⟨g, 0, none⟩) 0 0) (fun _ => S) rfl rfl hN (fun W hS => by
    obtain ⟨i0, hi⟩ := Option.isSome_iff_exists.1 hi
    exact ⟨W.heap.size, W.alloc (.cells #[] e), (by simp [execOp, Instr.buildSlice, run_underlying hu, sizeOf, typeInfo, hi, Instr.fill, newRow]; rw [show (Array.range 0 : Array Nat) = #[] from Array.eq_empty_of_size_eq_zero (by simp)]; simp), hS.go_on (below_al W _)⟩) h
end
theorem lit5 (a : Int) : Try.prog.builtSlice 5 1 [(0, .int .u8 a)] = some ([a].map (Value.int .u8)).toArray := by kernel_rfl
theorem take_u8 (vs : List Int) (k : Nat) (h : k < vs.length) : ((vs.take (k + 1)).map (IntKind.u8.wrap ·)).map (Value.int .u8) = ((vs.take k).map (IntKind.u8.wrap ·)).map (Value.int .u8) ++ [IntKind.u8.wrap (vs.getD k 0)].map (Value.int .u8) := by
  rw [List.take_succ_eq_append_getElem h, List.map_append, List.map_append, List.getD_eq_getElem?_getD, List.getElem?_eq_getElem h]
  rfl
theorem cl_none {W : World} {vs : List Value} (h : Cl W none vs) : vs = [] := by
  cases vs with
  | nil => rfl
  | cons a r => obtain ⟨_, e, _⟩ := h 0 a rfl; cases e

theorem rData_con {M : Nat → Prop} {w : World} (A0 : Option Addr) (c0 : Nat) (vs : List Int) (n : Nat) (hn : vs.length = n) (hF : Fact w M (fun W => Cl W A0 (vs.map (Value.int .i64)))) (hl : n ≤ 17592186044416) :
    Con Try.prog 29 #[.slice A0 n c0] w M (fun _ : Unit => .string (strOfNums (vs.map (IntKind.u8.wrap ·)))) (fun _ => True) (fun _ _ => True) := by
  subst hn
  refine con_intro (fn := Try.f29) (N := 21) Try.func29 rfl Try.ntmps29 hF rfl ?_
  refine c_seq ?_
  refine c_region ?_
  refine g_v rfl (r_assign) ?_
  refine g_nil ?_
  refine d_then ?_
  refine c_seq ?_
  refine c_region ?_
  refine g_v rfl (r_assign) ?_
  refine g_nil ?_
  refine d_then ?_
  refine c_seq ?_
  refine c_seq ?_
  refine c_region ?_
  refine g_v rfl (r_assign) ?_
  refine g_nil ?_
  refine d_then ?_
  refine c_block ?_
  refine c_loopU (ι := Nat × Option Addr × Nat) [0, 3, 4] (fun ⟨k, A, c⟩ => [(3, .slice A k c), (4, Value.int .i64 (k : Int))]) (fun ⟨k, A, c⟩ => ⟨w, M, [], [(3, ⟨.slice A k c, 5, 1, k, ((vs.take k).map (IntKind.u8.wrap ·)).map (Value.int .u8)⟩)], fun W => Cl W A0 (vs.map (Value.int .i64))⟩) (fun ⟨k, A, c⟩ => k ≤ vs.length ∧ k ≤ c) (fun ⟨k, A, c⟩ => vs.length - k) (0, none, 0) ⟨Nat.zero_le _, Nat.le_refl _⟩ ⟨rfl, rfl, rfl, trivial⟩ (fun W h => nilR h 3 5 1) (fun ⟨k, A, c⟩ u hI => ?_)
  obtain ⟨hks, hkc⟩ : k ≤ vs.length ∧ k ≤ c := hI
  refine c_seq ?_
  refine c_seq ?_
  refine c_region ?_
  refine g_v rfl (r_move) ?_
  refine g_v rfl (r_move) ?_
  refine g_v rfl (r_lenL Try.underlying42 rfl) ?_
  refine g_v rfl (r_lss rfl rfl) ?_
  refine g_nil ?_
  refine d_then ?_
  refine c_cond rfl (fun h8 => ?_) (fun h8 => ?_)
  · have h8' := h8
    try simp only [Bool.not_true, Bool.not_false, decide_eq_true_eq, decide_eq_false_iff_not, Bool.not_eq_true', Bool.not_eq_false'] at h8'
    have hk1 : k < vs.length := by omega
    obtain ⟨ad, hA1⟩ := hF.now.is_some (by simp; omega)
    refine c_skip ?_
    refine d_then ?_
    refine c_seq ?_
    refine c_block ?_
    refine c_region ?_
    refine g_v rfl (r_move) ?_
    refine g_v rfl (r_move) ?_
    refine g_v rfl (r_move) ?_
    refine g_v rfl (r_elem Try.underlying42 Try.sizeOf3 rfl hA1 rfl (by omega) (by omega)) ?_
    refine g_v rfl (r_loadF rfl Try.isAgg3 (fun W h => intD_at h hA1 k hk1)) ?_
    refine g_v rfl (r_conv Try.underlying3 Try.underlying5 rfl rfl) ?_
    refine g_lit rfl rfl Try.underlying95 (lit5 _) (fun g17 => ?_)
    refine g_append (tag := 3) (n := k) (m := 1) rfl Try.underlying95 info5 rfl (by decide) (by decide) rfl rfl rfl rfl (fun W hS => hS.now.2) (fun u hu => by simp at hu; subst hu; rfl) (by omega) (by decide) (fun A' c' hkc' => ?_)
    refine g_v rfl (r_assign) ?_
    refine g_nil ?_
    refine d_normal_block ?_
    refine d_then ?_
    refine c_region ?_
    refine g_v rfl (r_move) ?_
    refine g_v rfl (r_add rfl rfl (by first | exact IntWalk.i64_in _ (by omega) | rfl)) ?_
    refine g_v rfl (r_assign) ?_
    refine g_nil ?_
    exact d_round (k + 1, A', c') ⟨show k + 1 ≤ vs.length by omega, hkc'⟩ (show vs.length - (k + 1) < vs.length - k by omega) ⟨rfl, rfl, rfl, trivial⟩ (fun W h => by show (Sta.mk w M [] [(3, ⟨.slice A' (k + 1) c', 5, 1, k + 1, ((vs.take (k + 1)).map (IntKind.u8.wrap ·)).map (Value.int .u8)⟩)] fun W => Cl W A0 (vs.map (Value.int .i64))).ok W; rw [take_u8 vs k hk1]; exact h.phi fun _ h => h.1)
  · have h8' := h8
    try simp only [Bool.not_true, Bool.not_false, decide_eq_true_eq, decide_eq_false_iff_not, Bool.not_eq_true', Bool.not_eq_false'] at h8'
    have hke : k = vs.length := by omega
    subst hke
    refine c_exit ?_
    refine d_exit_then ?_
    refine d_exit_then ?_
    refine d_exit_block ?_
    refine d_then ?_
    refine c_seq ?_
    refine c_region ?_
    refine g_v rfl (r_move) ?_
    refine g_v rfl (r_text (xs := vs.map (IntKind.u8.wrap ·)) Try.underlying95 Try.underlying5 Try.underlying9 rfl (by rw [List.length_map]) (fun W hS => by have := rowCl (tag := 3) rfl W hS; rwa [List.take_of_length_le (Nat.le_refl _)] at this)) ?_
    refine g_v rfl (r_assign) ?_
    refine g_nil ?_
    refine d_then ?_
    refine c_ret ?_
    refine d_retR () Try.results29 ?_ trivial (fun _ _ => trivial) (.inr rfl)
    refine res_tmp ?_
    refine res_nil ?_
    exact rfl

theorem Clone_con {M : Nat → Prop} {w : World} (A : Option Addr) (c : Nat) (vs : List Int) (n : Nat) (hn : vs.length = n) (hF : Fact w M (fun W => Cl W A (vs.map (Value.int .i64)))) (hl : n ≤ 17592186044416) :
    Con Try.prog 75 #[.slice A n c] w M (fun x : Option Addr × Nat => .slice x.1 vs.length x.2) (fun x => vs.length ≤ x.2) (fun x W => Cl W x.1 (vs.map (Value.int .i64))) := by
  subst hn
  refine con_intro (fn := Try.f75) (N := 8) Try.func75 rfl Try.ntmps75 hF rfl ?_
  refine c_seq ?_
  refine c_region ?_
  refine g_v rfl (r_assign) ?_
  refine g_nil ?_
  refine d_then ?_
  refine c_seq ?_
  refine c_seq ?_
  refine c_region ?_
  refine g_v rfl (r_move) ?_
  refine g_v rfl (r_isNil Try.underlying42 rfl rfl) ?_
  refine g_nil ?_
  refine d_then ?_
  refine c_cond rfl (fun h4 => ?_) (fun h4 => ?_)
  · have h4' := h4
    try simp only [Bool.not_true, Bool.not_false, decide_eq_true_eq, decide_eq_false_iff_not, Bool.not_eq_true', Bool.not_eq_false'] at h4'
    have hv0 : vs = [] := by
      have hA : A = none := by simpa using h4
      subst hA
      exact List.map_eq_nil_iff.1 (cl_none hF.now)
    refine c_seq ?_
    refine c_region ?_
    refine g_v rfl (r_assign) ?_
    refine g_nil ?_
    refine d_then ?_
    refine c_ret ?_
    refine d_ret_then ?_
    refine d_retR (none, 0) Try.results75 ?_ (by subst hv0; exact Nat.le_refl _) (fun W h => by subst hv0; exact Cl.nil _ _) (.inr rfl)
    refine res_tmp ?_
    refine res_nil ?_
    subst hv0; exact rfl
  · have h4' := h4
    try simp only [Bool.not_true, Bool.not_false, decide_eq_true_eq, decide_eq_false_iff_not, Bool.not_eq_true', Bool.not_eq_false'] at h4'
    refine c_skip ?_
    refine d_then ?_
    refine c_seq ?_
    refine c_region ?_
    refine g_lit0 rfl Try.underlying42 (by kernel_rfl) (fun g5 => ?_)
    refine g_v rfl (r_move) ?_
    refine g_appFull (sz := 1) (bytes := 8) (n := 0) (m := vs.length) (xs := []) rfl Try.underlying42 info3 rfl (by decide) (by decide) rfl rfl rfl (by simp) (fun _ h => ⟨Cl.nil _ _, h⟩) (fun u hu => by simp at hu; obtain ⟨_, _, rfl⟩ := hu; rfl) (by omega) (fun A' c' hc' => ?_)
    refine g_v rfl (r_assign) ?_
    refine g_nil ?_
    refine d_then ?_
    refine c_ret ?_
    refine d_retR (A', c') Try.results75 ?_ (by rw [Nat.zero_add] at hc'; exact hc') (fun W h => h.2) (.inr rfl)
    refine res_tmp ?_
    refine res_nil ?_
    rw [Nat.zero_add] at hc' ⊢; exact rfl
end Go.Proofs.Ytildknbbpkbkeaa
