import Derived.Test.YtildknbbpkbkeaaSB
import Derived.Test.YtildknbbpkbkeaaT4
set_option maxRecDepth 16384
set_option maxHeartbeats 4000000
set_option linter.unusedVariables false
set_option linter.unusedSimpArgs false
namespace Go.Proofs.Ytildknbbpkbkeaa
open Go.RowKit

def rowD (vs : List Int) (k : Nat) : List Value := (vs.take k).map (fun v => .int .u8 (IntKind.u8.wrap v)) ++ List.replicate (vs.length - k) (.int .u8 0)
theorem rowD_zero (vs : List Int) : List.replicate vs.length (.int .u8 0) = rowD vs 0 := by simp [rowD]
theorem rowD_set (vs : List Int) (k : Nat) (h : k < vs.length) : (rowD vs k).set k (.int .u8 (IntKind.u8.wrap vs[k])) = rowD vs (k + 1) := by
  have h1 : vs.length - k = (vs.length - (k + 1)) + 1 := by omega
  rw [rowD, rowD, h1, List.replicate_succ, List.take_succ_eq_append_getElem h, List.map_append, List.append_assoc]
  have h2 : ((vs.take k).map (fun v => Value.int .u8 (IntKind.u8.wrap v))).length = k := by simp; omega
  rw [List.set_append_right _ _ (by rw [h2]; exact Nat.le_refl _), h2, Nat.sub_self]
  rfl
theorem rowD_end (vs : List Int) : rowD vs vs.length = (vs.map (IntKind.u8.wrap ·)).map (Value.int .u8) := by simp [rowD]
theorem cl_at {W : World} {A : Option Addr} {ad : Addr} {xs : List Value} (h : Cl W A xs) (hA : A = some ad) (i : Nat) (hi : i < xs.length) : W.cell? (ad.add (i * 1)) = some xs[i] := by
  subst hA
  rw [Nat.mul_one]
  exact h.cells i _ (List.getElem?_eq_getElem hi)
theorem int_at {W : World} {A : Option Addr} {ad : Addr} {vs : List Int} (h : Cl W A (vs.map (Value.int .i64))) (hA : A = some ad) (i : Nat) (hi : i < vs.length) : W.cell? (ad.add (i * 1)) = some (.int .i64 vs[i]) := by
  have := cl_at h hA i (by simpa using hi)
  simpa using this
def entT (t : Int) : Ent := ⟨t, 0, ⟨#[]⟩⟩
theorem build35t (t : Int) : ∀ W, (Instr.build 35 #[(0, .int .i64 t)]).run Try.prog W = .ok (.agg #[.int .i64 t, .int .i64 0, .string ⟨#[]⟩]) W := fun _ => by kernel_rfl
theorem build26 (b t : Int) (A : Option Addr) (n c : Nat) : ∀ W, (Instr.build 26 #[(0, .int .i64 b), (1, .int .i64 t), (2, .slice A n c)]).run Try.prog W = .ok (.agg #[.int .i64 b, .int .i64 t, .slice A n c]) W := fun _ => by kernel_rfl
theorem lit35 (a b : Int) : Try.prog.builtSlice 35 2 [(0, .agg #[.int .i64 a, .int .i64 0, .string ⟨#[]⟩]), (1, .agg #[.int .i64 b, .int .i64 0, .string ⟨#[]⟩])] = some (ents [entT a, entT b]).toArray := by kernel_rfl
theorem lit35' (a : Int) : Try.prog.builtSlice 35 1 [(0, .agg #[.int .i64 a, .int .i64 0, .string ⟨#[]⟩])] = some (ents [entT a]).toArray := by kernel_rfl
theorem info5 : (Try.prog.info? 5).map (fun i => (i.zero, i.size, i.bytes)) = some (some (.int .u8 0), 1, 1) := by kernel_rfl

theorem Data_con {M : Nat → Prop} {w : World} (A : Option Addr) (c : Nat) (vs : List Int) (hF : Fact w M (fun W => Cl W A (vs.map (Value.int .i64)))) (hl : vs.length ≤ 140737488355328) :
    Con Try.prog 28 #[.slice A vs.length c] w M (fun _ : Unit => .string (strOfNums (vs.map (IntKind.u8.wrap ·)))) (fun _ => True) (fun _ _ => True) := by
  refine con_intro (fn := Try.f28) (N := 24) Try.func28 rfl Try.ntmps28 hF rfl ?_
  refine c_seq ?_
  refine c_region ?_
  refine g_v rfl (r_assign) ?_
  refine g_nil ?_
  refine d_then ?_
  refine c_seq ?_
  refine c_region ?_
  refine g_v rfl (r_move) ?_
  refine g_v rfl (r_lenL Try.underlying42 rfl) ?_
  refine g_make (z := .int .u8 0) rfl Try.underlying95 info5 rfl rfl rfl rfl rfl (by omega) (by omega) (fun g8 => ?_)
  refine g_v rfl (r_assign) ?_
  refine g_nil ?_
  refine d_then ?_
  refine c_seq ?_
  refine c_seq ?_
  refine c_region ?_
  refine g_v rfl (r_move) ?_
  refine g_v rfl (r_lenL Try.underlying42 rfl) ?_
  refine g_v rfl (r_move) ?_
  refine g_nil ?_
  refine d_then ?_
  refine c_block ?_
  refine c_loopU (ι := Nat) [3, 9, 10, 11] (fun k => [(11, Value.int .i64 (k : Int))]) (fun k => ⟨w, M, [], [(8, ⟨.slice (some ⟨g8, 0, none⟩) vs.length vs.length, 5, 1, vs.length, rowD vs k⟩)], fun W => Cl W A (vs.map (Value.int .i64))⟩) (fun k => k ≤ vs.length) (fun k => vs.length - k) 0 (Nat.zero_le _) ⟨rfl, rfl, rfl, rfl, trivial⟩ (fun W h => by rw [← rowD_zero]; exact h) (fun k u hI => ?_)
  
  refine c_seq ?_
  refine c_region ?_
  refine g_v rfl (r_lss rfl rfl) ?_
  refine g_nil ?_
  refine d_then ?_
  refine c_seq ?_
  refine c_cond rfl (fun h12 => ?_) (fun h12 => ?_)
  · have h12' := h12
    simp only [decide_eq_true_eq, decide_eq_false_iff_not] at h12'
    have hk1 : k < vs.length := by omega
    obtain ⟨ad, hA1⟩ := hF.now.is_some (by simp; omega)
    refine c_skip ?_
    refine d_then ?_
    refine c_seq ?_
    refine c_block ?_
    refine c_seq ?_
    refine c_region ?_
    refine g_v rfl (r_move) ?_
    refine g_v rfl (r_elem Try.underlying42 Try.sizeOf3 rfl hA1 rfl (by omega) (by omega)) ?_
    refine g_v rfl (r_loadF rfl Try.isAgg3 (fun W h => int_at h hA1 k hk1)) ?_
    refine g_v rfl (r_assign) ?_
    refine g_v rfl (r_assign) ?_
    refine g_nil ?_
    refine d_then ?_
    refine c_region ?_
    refine g_v rfl (r_move) ?_
    refine g_v rfl (r_move) ?_
    refine g_v rfl (r_move) ?_
    refine g_v rfl (r_conv Try.underlying3 Try.underlying5 rfl rfl) ?_
    refine g_v rfl (r_elemG (n := k) Try.underlying95 Try.sizeOf5 rfl rfl (by omega) (by omega) (Nat.mul_one k)) ?_
    refine g_storeR (tag := 8) rfl rfl rfl rfl rfl Try.sizeOf5 hk1 ?_
    refine g_nil ?_
    refine d_normal_block ?_
    refine d_then ?_
    refine c_region ?_
    refine g_v rfl (r_add rfl rfl (by first | exact IntWalk.i64_in _ (by omega) | rfl)) ?_
    refine g_v rfl (r_move) ?_
    refine g_nil ?_
    exact d_round (k + 1) (by omega) (by omega) ⟨rfl, rfl, rfl, rfl, trivial⟩ (fun W h => by rw [← rowD_set vs k hk1]; exact h)
  · have h12' := h12
    simp only [decide_eq_true_eq, decide_eq_false_iff_not] at h12'
    have hk2 : k = vs.length := by omega
    subst hk2
    refine c_exit ?_
    refine d_exit_then ?_
    refine d_exit_then ?_
    refine d_exit_block ?_
    refine d_then ?_
    refine c_seq ?_
    refine c_region ?_
    refine g_v rfl (r_move) ?_
    refine g_v rfl (r_text (xs := vs.map (IntKind.u8.wrap ·)) Try.underlying95 Try.underlying5 Try.underlying9 rfl (by simp) (fun W hS => by rw [← rowD_end]; exact rowCl (tag := 8) rfl W hS)) ?_
    refine g_v rfl (r_assign) ?_
    refine g_nil ?_
    refine d_then ?_
    refine c_ret ?_
    refine d_retR () Try.results28 ?_ trivial (fun _ _ => trivial) (.inr rfl)
    refine res_tmp ?_
    refine res_nil ?_
    exact rfl

theorem example_con {M : Nat → Prop} {w : World} (hF : Fact w M (fun _ => True)) :
    Con Try.prog 70 #[] w M (fun g : Nat => .agg #[.int .i64 2, .int .i64 1, .slice (some ⟨g, 0, none⟩) 2 2]) (fun _ => True) (fun g W => Cl W (some ⟨g, 0, none⟩) (ents [entT 1, entT 2])) := by
  refine con_intro (fn := Try.f70) (N := 5) Try.func70 rfl Try.ntmps70 hF rfl ?_
  refine c_seq ?_
  refine c_region ?_
  refine g_alloc rfl Try.zeroValue26 (fun g0 => ?_)
  refine g_nil ?_
  refine d_then ?_
  refine c_seq ?_
  refine c_region ?_
  refine g_v rfl (r_build _ rfl (build35t 1)) ?_
  refine g_v rfl (r_build _ rfl (build35t 2)) ?_
  refine g_lit rfl rfl Try.underlying24 (lit35 1 2) (fun g3 => ?_)
  refine g_v rfl (r_build _ rfl (build26 _ _ _ _ _)) ?_
  refine g_store (tag := 0) rfl rfl rfl rfl Try.sizeOf26 rfl (.inl (Nat.zero_le _)) rfl ?_
  refine g_nil ?_
  refine d_then ?_
  refine c_ret ?_
  refine d_retR g3 Try.results70 ?_ trivial (fun _ h => h.2) (.inr rfl)
  refine res_agg (tag := 0) rfl rfl Try.isAgg26 Try.sizeOf26 ?_
  refine res_nil ?_
  exact rfl
end Go.Proofs.Ytildknbbpkbkeaa
