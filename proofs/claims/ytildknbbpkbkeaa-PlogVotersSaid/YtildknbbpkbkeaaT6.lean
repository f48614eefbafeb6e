import Derived.Test.YtildknbbpkbkeaaT5
set_option maxRecDepth 16384
set_option maxHeartbeats 4000000
set_option linter.unusedVariables false
set_option linter.unusedSimpArgs false
namespace Go.Proofs.Ytildknbbpkbkeaa
open Go.RowKit
theorem lit42 : Try.prog.builtSlice 3 2 [(0, .int .i64 1), (1, .int .i64 5)] = some (([1, 5] : List Int).map (Value.int .i64)).toArray := by kernel_rfl

def exL : List Ent := [entT 1, entT 2]
theorem exS : ((strOfNums (([1, 5] : List Int).map (IntKind.u8.wrap ·))).toList == (⟨#[1, 5]⟩ : ByteArray).toList) = true := by
  rw [show strOfNums (([1, 5] : List Int).map (IntKind.u8.wrap ·)) = ⟨#[1, 5]⟩ from by decide]; exact beq_self_eq_true _
theorem exB : Bd 2 exL := ⟨by decide, by decide, by decide⟩

theorem awake_con {M : Nat → Prop} {w : World} (hF : Fact w M (fun _ => True)) : Con Try.prog 15 #[] w M (fun _ : Unit => .bool true) (fun _ => True) (fun _ _ => True) := by
  refine con_intro (fn := Try.f15) (N := 102) Try.func15 rfl Try.ntmps15 hF rfl ?_
  refine c_seq ?_
  refine c_region ?_
  refine g_v rfl (r_assign) ?_
  refine g_nil ?_
  refine d_then ?_
  refine c_seq ?_
  refine c_region ?_
  refine g_call Try.call70 rfl rfl (fun W hS => example_con (hS.toFact.imp fun _ _ => trivial)) (fun g _ => ?_)
  refine g_alloc rfl Try.zeroValue26 (fun g1 => ?_)
  refine g_store (tag := 1) rfl rfl rfl rfl Try.sizeOf26 rfl (.inl (Nat.zero_le _)) rfl ?_
  refine g_nil ?_
  refine d_then ?_
  refine c_seq ?_
  refine c_region ?_
  refine g_v rfl (r_loadA (tag := 1) rfl rfl Try.isAgg26 Try.sizeOf26 rfl rfl) ?_
  refine g_callN Try.call31 rfl rfl (fun W hS => Term_con 2 1 (some ⟨g, 0, none⟩) 2 exL (hS.toFact.imp fun _ h => h.2) exB 2) (fun _ _ => ?_)
  refine g_v rfl (r_move) ?_
  refine g_v rfl (r_extract rfl rfl) ?_
  refine g_v rfl (r_extract rfl rfl) ?_
  refine g_v rfl (r_assign) ?_
  refine g_v rfl (r_assign) ?_
  refine g_nil ?_
  refine d_then ?_
  refine c_seq ?_
  refine c_region ?_
  refine g_v rfl (r_loadA (tag := 1) rfl rfl Try.isAgg26 Try.sizeOf26 rfl rfl) ?_
  refine g_callN Try.call31 rfl rfl (fun W hS => Term_con 2 1 (some ⟨g, 0, none⟩) 2 exL (hS.toFact.imp fun _ h => h.2) exB 4) (fun _ _ => ?_)
  refine g_v rfl (r_move) ?_
  refine g_v rfl (r_extract rfl rfl) ?_
  refine g_v rfl (r_extract rfl rfl) ?_
  refine g_v rfl (r_assign) ?_
  refine g_v rfl (r_assign) ?_
  refine g_nil ?_
  refine d_then ?_
  refine c_seq ?_
  refine c_region ?_
  refine g_v rfl (r_loadA (tag := 1) rfl rfl Try.isAgg26 Try.sizeOf26 rfl rfl) ?_
  refine g_callN Try.call31 rfl rfl (fun W hS => Term_con 2 1 (some ⟨g, 0, none⟩) 2 exL (hS.toFact.imp fun _ h => h.2) exB 5) (fun _ _ => ?_)
  refine g_v rfl (r_move) ?_
  refine g_v rfl (r_extract rfl rfl) ?_
  refine g_v rfl (r_extract rfl rfl) ?_
  refine g_v rfl (r_assign) ?_
  refine g_v rfl (r_assign) ?_
  refine g_nil ?_
  refine d_then ?_
  refine c_seq ?_
  refine c_region ?_
  refine g_v rfl (r_loadA (tag := 1) rfl rfl Try.isAgg26 Try.sizeOf26 rfl rfl) ?_
  refine g_v rfl (r_build _ rfl (build35t 3)) ?_
  refine g_lit rfl rfl Try.underlying24 (lit35' 3) (fun g31 => ?_)
  refine g_callN Try.call20 rfl rfl (fun W hS => Put_con 2 1 (some ⟨g, 0, none⟩) 2 exL (some ⟨g31, 0, none⟩) 1 [entT 3] 3 (hS.toFact.imp fun _ h => ⟨h.1.2, h.2⟩) (by decide) (by decide) exB (by decide)) (fun ⟨A1, c1⟩ _ => ?_)
  refine g_v rfl (r_move) ?_
  refine g_v rfl (r_extract rfl rfl) ?_
  refine g_v rfl (r_extract rfl rfl) ?_
  refine g_alloc rfl Try.zeroValue26 (fun g8 => ?_)
  refine g_store (tag := 8) rfl rfl rfl rfl Try.sizeOf26 rfl (.inl (Nat.zero_le _)) rfl ?_
  refine g_v rfl (r_assign) ?_
  refine g_nil ?_
  refine d_then ?_
  refine c_seq ?_
  refine c_region ?_
  refine g_v rfl (r_loadA (tag := 1) rfl rfl Try.isAgg26 Try.sizeOf26 rfl rfl) ?_
  refine g_v rfl (r_build _ rfl (build35t 2)) ?_
  refine g_v rfl (r_build _ rfl (build35t 2)) ?_
  refine g_lit rfl rfl Try.underlying24 (lit35 2 2) (fun g39 => ?_)
  refine g_callN Try.call20 rfl rfl (fun W hS => Put_con 2 1 (some ⟨g, 0, none⟩) 2 exL (some ⟨g39, 0, none⟩) 2 [entT 2, entT 2] 3 (hS.toFact.imp fun _ h => ⟨h.1.1.2, h.2⟩) (by decide) (by decide) exB (by decide)) (fun ⟨A2, c2⟩ _ => ?_)
  refine g_v rfl (r_move) ?_
  refine g_v rfl (r_extract rfl rfl) ?_
  refine g_v rfl (r_extract rfl rfl) ?_
  refine g_alloc rfl Try.zeroValue26 (fun g10 => ?_)
  refine g_store (tag := 10) rfl rfl rfl rfl Try.sizeOf26 rfl (.inl (Nat.zero_le _)) rfl ?_
  refine g_v rfl (r_assign) ?_
  refine g_nil ?_
  refine d_then ?_
  refine c_seq ?_
  refine c_region ?_
  refine g_v rfl (r_loadA (tag := 1) rfl rfl Try.isAgg26 Try.sizeOf26 rfl rfl) ?_
  refine g_callN Try.call38 rfl rfl (fun W hS => Last_con (hS.toFact) 2 1 (some ⟨g, 0, none⟩) 2 exL exB) (fun _ _ => ?_)
  refine g_v rfl (r_eql rfl rfl) ?_
  refine g_v rfl (r_move) ?_
  refine g_do rfl rfl rfl rfl rfl rfl ?_
  refine g_v rfl (r_move) ?_
  refine g_do rfl rfl rfl rfl rfl rfl ?_
  refine g_v rfl (r_eql rfl rfl) ?_
  refine g_v rfl (r_pick1 rfl rfl) ?_
  refine g_v rfl (r_move) ?_
  refine g_do rfl rfl rfl rfl rfl rfl ?_
  refine g_v rfl (r_move) ?_
  refine g_v rfl (r_pick1 rfl rfl) ?_
  refine g_v rfl (r_move) ?_
  refine g_do rfl rfl rfl rfl rfl rfl ?_
  refine g_v rfl (r_move) ?_
  refine g_do rfl rfl rfl rfl rfl rfl ?_
  refine g_v rfl (r_eql rfl rfl) ?_
  refine g_v rfl (r_pick1 rfl rfl) ?_
  refine g_v rfl (r_move) ?_
  refine g_do rfl rfl rfl rfl rfl rfl ?_
  refine g_v rfl (r_move) ?_
  refine g_v rfl (r_pick1 rfl rfl) ?_
  refine g_v rfl (r_move) ?_
  refine g_do rfl rfl rfl rfl rfl rfl ?_
  refine g_v rfl (r_move) ?_
  refine g_do rfl rfl rfl rfl rfl rfl ?_
  refine g_v rfl (r_not rfl) ?_
  refine g_v rfl (r_pick1 rfl rfl) ?_
  refine g_v rfl (r_move) ?_
  refine g_do rfl rfl rfl rfl rfl rfl ?_
  refine g_v rfl (r_move) ?_
  refine g_do rfl rfl rfl rfl rfl rfl ?_
  refine g_v rfl (r_eql rfl rfl) ?_
  refine g_v rfl (r_pick1 rfl rfl) ?_
  refine g_v rfl (r_move) ?_
  refine g_do rfl rfl rfl rfl rfl rfl ?_
  refine g_v rfl (r_field (n := 2) Try.underlying26 rfl Try.sizeOf24 rfl rfl) ?_
  refine g_do rfl rfl rfl rfl rfl rfl ?_
  refine g_v rfl (r_load (tag := 8) rfl rfl rfl Try.isAgg24) ?_
  refine g_do rfl rfl rfl rfl rfl rfl ?_
  refine g_v rfl (r_lenL Try.underlying24 rfl) ?_
  refine g_do rfl rfl rfl rfl rfl rfl ?_
  refine g_v rfl (r_eql rfl rfl) ?_
  refine g_v rfl (r_pick1 rfl rfl) ?_
  refine g_v rfl (r_move) ?_
  refine g_do rfl rfl rfl rfl rfl rfl ?_
  refine g_v rfl (r_move) ?_
  refine g_do rfl rfl rfl rfl rfl rfl ?_
  refine g_v rfl (r_eql rfl rfl) ?_
  refine g_v rfl (r_pick1 rfl rfl) ?_
  refine g_v rfl (r_move) ?_
  refine g_do rfl rfl rfl rfl rfl rfl ?_
  refine g_v rfl (r_field (n := 2) Try.underlying26 rfl Try.sizeOf24 rfl rfl) ?_
  refine g_do rfl rfl rfl rfl rfl rfl ?_
  refine g_v rfl (r_load (tag := 10) rfl rfl rfl Try.isAgg24) ?_
  refine g_do rfl rfl rfl rfl rfl rfl ?_
  refine g_v rfl (r_lenL Try.underlying24 rfl) ?_
  refine g_do rfl rfl rfl rfl rfl rfl ?_
  refine g_v rfl (r_eql rfl rfl) ?_
  refine g_v rfl (r_pick1 rfl rfl) ?_
  refine g_v rfl (r_move) ?_
  refine g_do rfl rfl rfl rfl rfl rfl ?_
  refine g_v rfl (r_loadA (tag := 1) rfl rfl Try.isAgg26 Try.sizeOf26 rfl rfl) ?_
  refine g_do rfl rfl rfl rfl rfl rfl ?_
  refine g_callN Try.call16 rfl rfl (fun W hS => Newer_con 2 1 (some ⟨g, 0, none⟩) 2 exL (hS.toFact.imp fun _ h => h.1.1.2) exB 4 2) (fun _ _ => ?_)
  refine g_v rfl (r_pick1 rfl rfl) ?_
  refine g_v rfl (r_move) ?_
  refine g_do rfl rfl rfl rfl rfl rfl ?_
  refine g_v rfl (r_loadA (tag := 1) rfl rfl Try.isAgg26 Try.sizeOf26 rfl rfl) ?_
  refine g_do rfl rfl rfl rfl rfl rfl ?_
  refine g_callN Try.call16 rfl rfl (fun W hS => Newer_con 2 1 (some ⟨g, 0, none⟩) 2 exL (hS.toFact.imp fun _ h => h.1.1.2) exB 3 2) (fun _ _ => ?_)
  refine g_do rfl rfl rfl rfl rfl rfl ?_
  refine g_v rfl (r_not rfl) ?_
  refine g_v rfl (r_pick1 rfl rfl) ?_
  refine g_v rfl (r_move) ?_
  refine g_do rfl rfl rfl rfl rfl rfl ?_
  refine g_v rfl (r_loadA (tag := 1) rfl rfl Try.isAgg26 Try.sizeOf26 rfl rfl) ?_
  refine g_do rfl rfl rfl rfl rfl rfl ?_
  refine g_callN Try.call16 rfl rfl (fun W hS => Newer_con 2 1 (some ⟨g, 0, none⟩) 2 exL (hS.toFact.imp fun _ h => h.1.1.2) exB 1 3) (fun _ _ => ?_)
  refine g_v rfl (r_pick1 rfl rfl) ?_
  refine g_v rfl (r_move) ?_
  refine g_do rfl rfl rfl rfl rfl rfl ?_
  refine g_lit rfl rfl Try.underlying42 lit42 (fun g98 => ?_)
  refine g_do rfl rfl rfl rfl rfl rfl ?_
  refine g_callN Try.call28 rfl rfl (fun W hS => Data_con (some ⟨g98, 0, none⟩) 2 [1, 5] (hS.toFact.imp fun _ h => h.2) (by decide)) (fun _ _ => ?_)
  refine g_do rfl rfl rfl rfl rfl rfl ?_
  refine g_v rfl (r_eqlS rfl rfl) ?_
  refine g_v rfl (r_pick1 rfl rfl) ?_
  refine g_v rfl (r_assign) ?_
  refine g_nil ?_
  refine d_then ?_
  refine c_ret ?_
  refine d_retR () Try.results15 ?_ trivial (fun _ _ => trivial) (.inr rfl)
  refine res_tmp ?_
  refine res_nil ?_
  exact congrArg Value.bool exS
end Go.Proofs.Ytildknbbpkbkeaa
