import Derived.Test.YtoglbdaagfoddaaWRVA
set_option maxRecDepth 100000
set_option maxHeartbeats 4000000
set_option linter.unusedVariables false
set_option linter.unusedSimpArgs false
namespace Go.Proofs.Ytoglbdaagfoddaa
open Go.RowKit Go.Proofs.YtoglbdaagfoddaaW.PrintLast
noncomputable def m_raft_state_stands_j1 (p0 : Graft_state) (l246 : List GNote) (i251 : Int) (i252 : Int) : Option (Graft_state × (List GNote)) :=
  some ((⟨(⟨p0.fRaft.fMe, 1, 0, p0.fRaft.fCommit, p0.fRaft.fLeft, (⟨i251, i252, p0.fRaft.fHard.fVoters, p0.fRaft.fHard.fSnap, p0.fRaft.fHard.fLog⟩ : GHard), [p0.fRaft.fMe], ([] : List GMark)⟩ : GRaft)⟩ : Graft_state), l246)
noncomputable def m_raft_state_stands_s2 (x50 : List Int) (p0 : Graft_state) (l291 : List GNote) (i296 : Int) (i297 : Int) (i298 : Int) : Option (((List GNote) × Int × Int × Int) ⊕ ((List GNote) × Int × Int)) :=
  if i296 < (x50.length : Int) then
    (at_ x50 i296).bind fun x337 =>
    (m_raft_state_note (⟨(⟨p0.fRaft.fMe, 1, 0, p0.fRaft.fCommit, p0.fRaft.fLeft, (⟨i297, i298, p0.fRaft.fHard.fVoters, p0.fRaft.fHard.fSnap, p0.fRaft.fHard.fLog⟩ : GHard), [p0.fRaft.fMe], ([] : List GMark)⟩ : GRaft)⟩ : Graft_state) 1 x337).bind fun x341 =>
    (m_raft_state_last (⟨(⟨p0.fRaft.fMe, 1, 0, p0.fRaft.fCommit, p0.fRaft.fLeft, (⟨i297, i298, p0.fRaft.fHard.fVoters, p0.fRaft.fHard.fSnap, p0.fRaft.fHard.fLog⟩ : GHard), [p0.fRaft.fMe], ([] : List GMark)⟩ : GRaft)⟩ : Graft_state)).bind fun (z354 : Int × Int) =>
    (app 128 l291 [(⟨x341.fKind, x341.fFrom, x341.fTo, x341.fTerm, z354.1, z354.2, x341.fCommit, x341.fGood, x341.fEntries, x341.fVoters, x341.fSnap⟩ : GNote)]).bind fun l358 =>
    some (.inl (l358, w64 (i296 + 1), i297, i298))
  else
    some (.inr (l291, i297, i298))
noncomputable def m_raft_state_stands (p0 : Graft_state) : Option (Graft_state × (List GNote)) :=
  (m_raft_state_voters (⟨(⟨p0.fRaft.fMe, 1, 0, p0.fRaft.fCommit, p0.fRaft.fLeft, (⟨w64 (p0.fRaft.fHard.fTerm + 1), w64 (p0.fRaft.fMe + 1), p0.fRaft.fHard.fVoters, p0.fRaft.fHard.fSnap, p0.fRaft.fHard.fLog⟩ : GHard), [p0.fRaft.fMe], ([] : List GMark)⟩ : GRaft)⟩ : Graft_state)).bind fun x18 =>
  (m_raft_Majority x18 [p0.fRaft.fMe]).bind fun x23 =>
  if x23 = true then
    (m_raft_state_leads (⟨(⟨p0.fRaft.fMe, 1, 0, p0.fRaft.fCommit, p0.fRaft.fLeft, (⟨w64 (p0.fRaft.fHard.fTerm + 1), w64 (p0.fRaft.fMe + 1), p0.fRaft.fHard.fVoters, p0.fRaft.fHard.fSnap, p0.fRaft.fHard.fLog⟩ : GHard), [p0.fRaft.fMe], ([] : List GMark)⟩ : GRaft)⟩ : Graft_state)).bind fun (z47 : Graft_state × (List GNote)) =>
    some (z47.1, z47.2)
  else
    (m_raft_state_others (⟨(⟨p0.fRaft.fMe, 1, 0, p0.fRaft.fCommit, p0.fRaft.fLeft, (⟨w64 (p0.fRaft.fHard.fTerm + 1), w64 (p0.fRaft.fMe + 1), p0.fRaft.fHard.fVoters, p0.fRaft.fHard.fSnap, p0.fRaft.fHard.fLog⟩ : GHard), [p0.fRaft.fMe], ([] : List GMark)⟩ : GRaft)⟩ : Graft_state)).bind fun x50 =>
    (loop (fun s => m_raft_state_stands_s2 x50 p0 s.1 s.2.1 s.2.2.1 s.2.2.2) (([] : List GNote), 0, w64 (p0.fRaft.fHard.fTerm + 1), w64 (p0.fRaft.fMe + 1))).bind fun e => m_raft_state_stands_j1 p0 e.1 e.2.1 e.2.2
theorem c_raft_state_stands {w0 : World} {M : Nat → Prop} {H : List (Nat × Nat × Obj)} {R : List (Nat × Row)} {φ : World → Prop} (p0 : Graft_state) (Ap0_0 : Option Addr) (cp0_0 : Nat) (hcp0_0 : p0.fRaft.fHard.fVoters.length ≤ cp0_0) (fp0_0 : ∀ W, φ W → Cl W Ap0_0 (p0.fRaft.fHard.fVoters.flatMap (fun x : Int => [Value.int .i64 x]))) (Ap0_1 : Option Addr) (cp0_1 : Nat) (hcp0_1 : p0.fRaft.fHard.fLog.fEntries.length ≤ cp0_1) (fp0_1 : ∀ W, φ W → Cl W Ap0_1 (p0.fRaft.fHard.fLog.fEntries.flatMap GEntry.enc)) (Ap0_2 : Option Addr) (cp0_2 : Nat) (hcp0_2 : p0.fRaft.fVotes.length ≤ cp0_2) (fp0_2 : ∀ W, (Sta.mk w0 M H R φ).ok W → Cl W Ap0_2 (p0.fRaft.fVotes.flatMap (fun x : Int => [Value.int .i64 x]))) (Ap0_3 : Option Addr) (cp0_3 : Nat) (hcp0_3 : p0.fRaft.fMarks.length ≤ cp0_3) (fp0_3 : ∀ W, (Sta.mk w0 M H R φ).ok W → Cl W Ap0_3 (p0.fRaft.fMarks.flatMap GMark.enc)) (r : Graft_state × (List GNote)) (hm : m_raft_state_stands p0 = some r) :
    Cn Try.prog 41 #[.agg #[.int .i64 p0.fRaft.fMe, .int .i64 p0.fRaft.fRole, .int .i64 p0.fRaft.fLeader, .int .i64 p0.fRaft.fCommit, .int .i64 p0.fRaft.fLeft, .int .i64 p0.fRaft.fHard.fTerm, .int .i64 p0.fRaft.fHard.fVote, .slice Ap0_0 p0.fRaft.fHard.fVoters.length cp0_0, .string p0.fRaft.fHard.fSnap, .int .i64 p0.fRaft.fHard.fLog.fBase, .int .i64 p0.fRaft.fHard.fLog.fBaseTerm, .slice Ap0_1 p0.fRaft.fHard.fLog.fEntries.length cp0_1, .slice Ap0_2 p0.fRaft.fVotes.length cp0_2, .slice Ap0_3 p0.fRaft.fMarks.length cp0_3]] ⟨w0, M, H, R, φ⟩ (fun x : Option Addr × Nat × Option Addr × Nat × Option Addr × Nat × Option Addr × Nat × Option Addr × Nat × List GNoteP => .tuple #[.agg #[.int .i64 r.1.fRaft.fMe, .int .i64 r.1.fRaft.fRole, .int .i64 r.1.fRaft.fLeader, .int .i64 r.1.fRaft.fCommit, .int .i64 r.1.fRaft.fLeft, .int .i64 r.1.fRaft.fHard.fTerm, .int .i64 r.1.fRaft.fHard.fVote, .slice x.1 r.1.fRaft.fHard.fVoters.length x.2.1, .string r.1.fRaft.fHard.fSnap, .int .i64 r.1.fRaft.fHard.fLog.fBase, .int .i64 r.1.fRaft.fHard.fLog.fBaseTerm, .slice x.2.2.1 r.1.fRaft.fHard.fLog.fEntries.length x.2.2.2.1, .slice x.2.2.2.2.1 r.1.fRaft.fVotes.length x.2.2.2.2.2.1, .slice x.2.2.2.2.2.2.1 r.1.fRaft.fMarks.length x.2.2.2.2.2.2.2.1], .slice x.2.2.2.2.2.2.2.2.1 r.2.length x.2.2.2.2.2.2.2.2.2.1]) (fun x => r.1.fRaft.fHard.fVoters.length ≤ x.2.1 ∧ r.1.fRaft.fHard.fLog.fEntries.length ≤ x.2.2.2.1 ∧ r.1.fRaft.fVotes.length ≤ x.2.2.2.2.2.1 ∧ r.1.fRaft.fMarks.length ≤ x.2.2.2.2.2.2.2.1 ∧ (DOk GNote.capP r.2 x.2.2.2.2.2.2.2.2.2.2 ∧ r.2.length ≤ x.2.2.2.2.2.2.2.2.2.1)) (fun x => ⟨w0, M, H, (2004, ⟨.slice x.2.2.2.2.2.2.2.2.1 r.2.length x.2.2.2.2.2.2.2.2.2.1, 25, 11, r.2.length, (r.2.zip x.2.2.2.2.2.2.2.2.2.2).flatMap GNote.encP⟩) :: R, fun W => φ W ∧ Cl W x.1 (r.1.fRaft.fHard.fVoters.flatMap (fun x : Int => [Value.int .i64 x])) ∧ Cl W x.2.2.1 (r.1.fRaft.fHard.fLog.fEntries.flatMap GEntry.enc) ∧ Cl W x.2.2.2.2.1 (r.1.fRaft.fVotes.flatMap (fun x : Int => [Value.int .i64 x])) ∧ Cl W x.2.2.2.2.2.2.1 (r.1.fRaft.fMarks.flatMap GMark.enc) ∧ DOwn GNote.ownP r.2 x.2.2.2.2.2.2.2.2.2.2 W⟩) := by
 unfold m_raft_state_stands at hm
 refine cn_intro (fn := Try.f41) (N := 71) Try.func41 rfl Try.ntmps41 rfl <| c_seq <| c_region ?_
 refine g_e rfl (e_box 100010 rfl) (fun g1 _ => ?_)
 refine g_e rfl (e_alloc 100020 Try.zeroValue84) (fun g2 _ => ?_)
 refine g_v rfl r_assign <| g_nil <| d_then <| c_seq <| c_region <| g_v rfl (r_field (n := 0) Try.underlying84 rfl Try.sizeOf43 rfl rfl) <| g_v rfl (r_field (n := 5) Try.underlying43 rfl Try.sizeOf40 rfl rfl) <| g_v rfl (r_field (n := 5) Try.underlying40 rfl Try.sizeOf3 rfl rfl) <| g_v rfl (r_load (tag := 100010) rfl rfl rfl Try.isAgg3) <| g_v rfl (r_add rfl rfl rfl) ?_
 refine g_v rfl (r_field (n := 0) Try.underlying84 rfl Try.sizeOf43 rfl rfl) <| g_v rfl (r_field (n := 5) Try.underlying43 rfl Try.sizeOf40 rfl rfl) <| g_v rfl (r_field (n := 5) Try.underlying40 rfl Try.sizeOf3 rfl rfl) <| g_storeL (tag := 100010) rfl rfl rfl rfl Try.sizeOf3 rfl rfl <| g_nil <| d_then ?_
 refine c_flat [(1, .pointer (some ⟨g1, 0, none⟩)), (2, .pointer (some ⟨g2, 0, none⟩))] ⟨rfl, rfl, trivial⟩ (fun u => ?_)
 refine c_sta ⟨w0, M, (100020, g2, .cells #[.int .i64 0, .int .i64 0, .int .i64 0, .int .i64 0, .int .i64 0, .int .i64 0, .int .i64 0, .slice none 0 0, .string (⟨#[]⟩ : ByteArray), .int .i64 0, .int .i64 0, .slice none 0 0, .slice none 0 0, .slice none 0 0] 84 (0, 0)) :: (100010, g1, .cells #[.int .i64 p0.fRaft.fMe, .int .i64 p0.fRaft.fRole, .int .i64 p0.fRaft.fLeader, .int .i64 p0.fRaft.fCommit, .int .i64 p0.fRaft.fLeft, .int .i64 (w64 (p0.fRaft.fHard.fTerm + 1)), .int .i64 p0.fRaft.fHard.fVote, .slice Ap0_0 p0.fRaft.fHard.fVoters.length cp0_0, .string p0.fRaft.fHard.fSnap, .int .i64 p0.fRaft.fHard.fLog.fBase, .int .i64 p0.fRaft.fHard.fLog.fBaseTerm, .slice Ap0_1 p0.fRaft.fHard.fLog.fEntries.length cp0_1, .slice Ap0_2 p0.fRaft.fVotes.length cp0_2, .slice Ap0_3 p0.fRaft.fMarks.length cp0_3] 84 (0, 0)) :: H, R, φ⟩ (fun _ h => h) <| c_seq <| c_region <| g_v rfl (r_field (n := 0) Try.underlying84 rfl Try.sizeOf43 rfl rfl) <| g_v rfl (r_field (n := 0) Try.underlying43 rfl Try.sizeOf3 rfl rfl) <| g_v rfl (r_load (tag := 100010) rfl rfl rfl Try.isAgg3) <| g_v rfl (r_add rfl rfl rfl) <| g_v rfl (r_field (n := 0) Try.underlying84 rfl Try.sizeOf43 rfl rfl) <| g_v rfl (r_field (n := 5) Try.underlying43 rfl Try.sizeOf40 rfl rfl) <| g_v rfl (r_field (n := 6) Try.underlying40 rfl Try.sizeOf3 rfl rfl) ?_
 refine g_storeL (tag := 100010) rfl rfl rfl rfl Try.sizeOf3 rfl rfl <| g_nil <| d_then <| c_seq <| c_region <| g_v rfl (r_field (n := 0) Try.underlying84 rfl Try.sizeOf43 rfl rfl) <| g_v rfl (r_field (n := 0) Try.underlying43 rfl Try.sizeOf3 rfl rfl) <| g_v rfl (r_load (tag := 100010) rfl rfl rfl Try.isAgg3) ?_
 refine g_e rfl (e_lit (tag := 100270) (l := [p0.fRaft.fMe]) (enc := (fun x : Int => [Value.int .i64 x])) (sz := 1) rfl Try.underlying23 (lit3_0 _) rfl rfl (fun _ => rfl)) (fun g3 _ => ?_)
 refine g_v rfl (r_field (n := 0) Try.underlying84 rfl Try.sizeOf43 rfl rfl) <| g_v rfl (r_field (n := 1) Try.underlying43 rfl Try.sizeOf3 rfl rfl) <| g_storeL (tag := 100010) rfl rfl rfl rfl Try.sizeOf3 rfl rfl <| g_v rfl (r_field (n := 0) Try.underlying84 rfl Try.sizeOf43 rfl rfl) <| g_v rfl (r_field (n := 2) Try.underlying43 rfl Try.sizeOf3 rfl rfl) <| g_storeL (tag := 100010) rfl rfl rfl rfl Try.sizeOf3 rfl rfl <| g_v rfl (r_field (n := 0) Try.underlying84 rfl Try.sizeOf43 rfl rfl) <| g_v rfl (r_field (n := 12) Try.underlying43 rfl Try.sizeOf23 rfl rfl) <| g_storeL (tag := 100010) rfl rfl rfl rfl Try.sizeOf23 rfl rfl <| g_v rfl (r_field (n := 0) Try.underlying84 rfl Try.sizeOf43 rfl rfl) ?_
 refine g_v rfl (r_field (n := 13) Try.underlying43 rfl Try.sizeOf41 rfl rfl) <| g_storeL (tag := 100010) rfl rfl rfl rfl Try.sizeOf41 rfl rfl <| g_nil <| d_then ?_
 refine c_flat [(1, .pointer (some ⟨g1, 0, none⟩)), (2, .pointer (some ⟨g2, 0, none⟩))] ⟨rfl, rfl, trivial⟩ (fun u => ?_)
 refine c_sta ⟨w0, M, (100020, g2, .cells #[.int .i64 0, .int .i64 0, .int .i64 0, .int .i64 0, .int .i64 0, .int .i64 0, .int .i64 0, .slice none 0 0, .string (⟨#[]⟩ : ByteArray), .int .i64 0, .int .i64 0, .slice none 0 0, .slice none 0 0, .slice none 0 0] 84 (0, 0)) :: (100010, g1, .cells #[.int .i64 p0.fRaft.fMe, .int .i64 1, .int .i64 0, .int .i64 p0.fRaft.fCommit, .int .i64 p0.fRaft.fLeft, .int .i64 (w64 (p0.fRaft.fHard.fTerm + 1)), .int .i64 (w64 (p0.fRaft.fMe + 1)), .slice Ap0_0 p0.fRaft.fHard.fVoters.length cp0_0, .string p0.fRaft.fHard.fSnap, .int .i64 p0.fRaft.fHard.fLog.fBase, .int .i64 p0.fRaft.fHard.fLog.fBaseTerm, .slice Ap0_1 p0.fRaft.fHard.fLog.fEntries.length cp0_1, .slice (some ⟨g3, 0, none⟩) [p0.fRaft.fMe].length 1, .slice none 0 0] 84 (0, 0)) :: H, (100270, ⟨.slice (some ⟨g3, 0, none⟩) [p0.fRaft.fMe].length 1, 3, 1, [p0.fRaft.fMe].length, [p0.fRaft.fMe].flatMap (fun x : Int => [Value.int .i64 x])⟩) :: R, φ⟩ (fun _ h => h) <| c_seq <| c_seq <| ga_start (n := 6) ⟨w0, M, (100020, g2, .cells #[.int .i64 0, .int .i64 0, .int .i64 0, .int .i64 0, .int .i64 0, .int .i64 0, .int .i64 0, .slice none 0 0, .string (⟨#[]⟩ : ByteArray), .int .i64 0, .int .i64 0, .slice none 0 0, .slice none 0 0, .slice none 0 0] 84 (0, 0)) :: (100010, g1, .cells #[.int .i64 p0.fRaft.fMe, .int .i64 1, .int .i64 0, .int .i64 p0.fRaft.fCommit, .int .i64 p0.fRaft.fLeft, .int .i64 (w64 (p0.fRaft.fHard.fTerm + 1)), .int .i64 (w64 (p0.fRaft.fMe + 1)), .slice Ap0_0 p0.fRaft.fHard.fVoters.length cp0_0, .string p0.fRaft.fHard.fSnap, .int .i64 p0.fRaft.fHard.fLog.fBase, .int .i64 p0.fRaft.fHard.fLog.fBaseTerm, .slice Ap0_1 p0.fRaft.fHard.fLog.fEntries.length cp0_1, .slice (some ⟨g3, 0, none⟩) [p0.fRaft.fMe].length 1, .slice none 0 0] 84 (0, 0)) :: H, (100270, ⟨.slice (some ⟨g3, 0, none⟩) [p0.fRaft.fMe].length 1, 3, 1, [p0.fRaft.fMe].length, [p0.fRaft.fMe].flatMap (fun x : Int => [Value.int .i64 x])⟩) :: R, φ⟩ [] #[false, false, false, false, false, false] (fun W h => h.phi (fun W hφ => hφ)) mixed rfl rfl <| ga_v (i := 0) (bz 6 1) rfl (by kernel_rfl) (fun _ _ _ _ h => h) rfl (r_loadA (tag := 100010) rfl rfl Try.isAgg84 Try.sizeOf84 rfl rfl) <| ga_v (i := 2) (bz 6 5) rfl (by kernel_rfl) (fun _ _ _ _ h => h) rfl (r_field (n := 0) Try.underlying84 rfl Try.sizeOf43 rfl rfl) <| ga_v (i := 3) (bz 6 13) rfl (by kernel_rfl) (fun _ _ _ _ h => h) rfl (r_field (n := 12) Try.underlying43 rfl Try.sizeOf23 rfl rfl) <| ga_v (i := 4) (bz 6 29) rfl (by kernel_rfl) (fun _ _ _ _ h => h) rfl (r_load (tag := 100010) rfl rfl rfl Try.isAgg23) ?_
 replace hm := bnd hm
 obtain ⟨x18, hx19, hm⟩ := hm
 refine ga_cn (first := #[]) (i := 1) (bz 6 31) rfl (by kernel_rfl) (by decide)  ⟨w0, M, _, _, φ⟩ (fun _ h => h) Try.call40 rfl rfl rfl (c_raft_state_voters (⟨(⟨p0.fRaft.fMe, 1, 0, p0.fRaft.fCommit, p0.fRaft.fLeft, (⟨w64 (p0.fRaft.fHard.fTerm + 1), w64 (p0.fRaft.fMe + 1), p0.fRaft.fHard.fVoters, p0.fRaft.fHard.fSnap, p0.fRaft.fHard.fLog⟩ : GHard), [p0.fRaft.fMe], ([] : List GMark)⟩ : GRaft)⟩ : Graft_state) Ap0_0 cp0_0 hcp0_0 (fun W hS => fp0_0 W hS.now) Ap0_1 cp0_1 hcp0_1 (fun W hS => fp0_1 W hS.now) (some ⟨g3, 0, none⟩) 1 (Nat.le_refl _) (fun W hS => rowCl (tag := 100270) rfl W hS) none 0 (Nat.le_refl 0) (fun W _ => Cl.nil _ _) _ hx19) (fun ⟨A20, c21⟩ W hc21 h => ((ok_frontR (t := 2000) (t' := 100370) h rfl).dropR (t := 100370) rfl).phi (fun W hφ => hφ)) (fun ⟨A20, c21⟩ hc21 => ?_)
 refine ga_sta _ (fun W h => (ok_frontR (t := 2000) (t' := 100370) h rfl)) ?_
 replace hm := bnd hm
 obtain ⟨x23, hx24, hm⟩ := hm
 refine ga_cn (first := #[]) (i := 5) (bz 6 63) rfl (by kernel_rfl) (by decide)  ⟨w0, M, _, _, φ⟩ (fun _ h => h) Try.call13 rfl rfl rfl (c_raft_Majority x18 A20 c21 hc21 (fun W hS => rowCl (tag := 100370) rfl W hS) [p0.fRaft.fMe] (some ⟨g3, 0, none⟩) 1 (Nat.le_refl _) (fun W hS => rowCl (tag := 100270) rfl W hS) _ hx24) (fun _ W _ h => (h.dropR (t := 100370) rfl).phi (fun W hφ => hφ)) (fun _ _ => ?_)
 refine ga_done (by kernel_rfl) <| d_then <| c_sta ⟨w0, M, (100020, g2, .cells #[.int .i64 0, .int .i64 0, .int .i64 0, .int .i64 0, .int .i64 0, .int .i64 0, .int .i64 0, .slice none 0 0, .string (⟨#[]⟩ : ByteArray), .int .i64 0, .int .i64 0, .slice none 0 0, .slice none 0 0, .slice none 0 0] 84 (0, 0)) :: (100010, g1, .cells #[.int .i64 p0.fRaft.fMe, .int .i64 1, .int .i64 0, .int .i64 p0.fRaft.fCommit, .int .i64 p0.fRaft.fLeft, .int .i64 (w64 (p0.fRaft.fHard.fTerm + 1)), .int .i64 (w64 (p0.fRaft.fMe + 1)), .slice Ap0_0 p0.fRaft.fHard.fVoters.length cp0_0, .string p0.fRaft.fHard.fSnap, .int .i64 p0.fRaft.fHard.fLog.fBase, .int .i64 p0.fRaft.fHard.fLog.fBaseTerm, .slice Ap0_1 p0.fRaft.fHard.fLog.fEntries.length cp0_1, .slice (some ⟨g3, 0, none⟩) [p0.fRaft.fMe].length 1, .slice none 0 0] 84 (0, 0)) :: H, (100370, ⟨.slice A20 x18.length c21, 3, 1, x18.length, x18.flatMap (fun x : Int => [Value.int .i64 x])⟩) :: (100270, ⟨.slice (some ⟨g3, 0, none⟩) [p0.fRaft.fMe].length 1, 3, 1, [p0.fRaft.fMe].length, [p0.fRaft.fMe].flatMap (fun x : Int => [Value.int .i64 x])⟩) :: R, φ⟩ (fun _ h => h) ?_
 refine c_cond rfl (fun h25 => ?_) (fun h25 => ?_)
 ·
  replace hm := ite_t hm h25
  refine c_seq <| c_region <| g_v rfl (r_loadA (tag := 100010) rfl rfl Try.isAgg84 Try.sizeOf84 rfl rfl) ?_
  replace hm := bnd hm
  obtain ⟨⟨x26, x27⟩, hx28, hm⟩ := hm
  refine g_cn ⟨w0, M, _, _, φ⟩ (fun _ h => h) Try.call64 rfl rfl (c_raft_state_leads (⟨(⟨p0.fRaft.fMe, 1, 0, p0.fRaft.fCommit, p0.fRaft.fLeft, (⟨w64 (p0.fRaft.fHard.fTerm + 1), w64 (p0.fRaft.fMe + 1), p0.fRaft.fHard.fVoters, p0.fRaft.fHard.fSnap, p0.fRaft.fHard.fLog⟩ : GHard), [p0.fRaft.fMe], ([] : List GMark)⟩ : GRaft)⟩ : Graft_state) Ap0_0 cp0_0 hcp0_0 (fun W h => fp0_0 W h) Ap0_1 cp0_1 hcp0_1 (fun W h => fp0_1 W h) (some ⟨g3, 0, none⟩) 1 (Nat.le_refl _) (fun W hS => rowCl (tag := 100270) rfl W hS) none 0 (Nat.le_refl 0) (fun W _ => Cl.nil _ _) _ hx28) (fun ⟨A29, c30, A32, c33, A35, c36, A38, c39, A41, c42, ps44⟩ ⟨hc30, hc33, hc36, hc39, hc42⟩ => ?_)
  refine g_sta _ (fun W h => (ok_frontR (t := 2004) (t' := 100434) h rfl)) ?_
  refine g_abs (fun φ46 q46' => ?_)
  have q46 : ∀ W, φ46 W → φ W := fun W h => (q46' W h).1
  have f31 := fun (W : World) (h : φ46 W) => (q46' W h).2.1
  have f34 := fun (W : World) (h : φ46 W) => (q46' W h).2.2.1
  have f37 := fun (W : World) (h : φ46 W) => (q46' W h).2.2.2.1
  have f40 := fun (W : World) (h : φ46 W) => (q46' W h).2.2.2.2.1
  have f45 := fun (W : World) (h : φ46 W) => (q46' W h).2.2.2.2.2
  refine g_v rfl (r_extract rfl rfl) <| g_v rfl (r_extract rfl rfl) <| g_storeL (tag := 100020) rfl rfl rfl rfl Try.sizeOf84 rfl rfl <| g_v rfl r_assign <| g_nil <| d_then ?_
  refine c_flat [(2, .pointer (some ⟨g2, 0, none⟩)), (3, .slice A41 x27.length c42)] ⟨rfl, rfl, trivial⟩ (fun u => ?_)
  refine c_sta ⟨w0, M, (100020, g2, .cells #[.int .i64 x26.fRaft.fMe, .int .i64 x26.fRaft.fRole, .int .i64 x26.fRaft.fLeader, .int .i64 x26.fRaft.fCommit, .int .i64 x26.fRaft.fLeft, .int .i64 x26.fRaft.fHard.fTerm, .int .i64 x26.fRaft.fHard.fVote, .slice A29 x26.fRaft.fHard.fVoters.length c30, .string x26.fRaft.fHard.fSnap, .int .i64 x26.fRaft.fHard.fLog.fBase, .int .i64 x26.fRaft.fHard.fLog.fBaseTerm, .slice A32 x26.fRaft.fHard.fLog.fEntries.length c33, .slice A35 x26.fRaft.fVotes.length c36, .slice A38 x26.fRaft.fMarks.length c39] 84 (0, 0)) :: (100010, g1, .cells #[.int .i64 p0.fRaft.fMe, .int .i64 1, .int .i64 0, .int .i64 p0.fRaft.fCommit, .int .i64 p0.fRaft.fLeft, .int .i64 (w64 (p0.fRaft.fHard.fTerm + 1)), .int .i64 (w64 (p0.fRaft.fMe + 1)), .slice Ap0_0 p0.fRaft.fHard.fVoters.length cp0_0, .string p0.fRaft.fHard.fSnap, .int .i64 p0.fRaft.fHard.fLog.fBase, .int .i64 p0.fRaft.fHard.fLog.fBaseTerm, .slice Ap0_1 p0.fRaft.fHard.fLog.fEntries.length cp0_1, .slice (some ⟨g3, 0, none⟩) [p0.fRaft.fMe].length 1, .slice none 0 0] 84 (0, 0)) :: H, (100434, ⟨.slice A41 x27.length c42, 25, 11, x27.length, (x27.zip ps44).flatMap GNote.encP⟩) :: (100370, ⟨.slice A20 x18.length c21, 3, 1, x18.length, x18.flatMap (fun x : Int => [Value.int .i64 x])⟩) :: (100270, ⟨.slice (some ⟨g3, 0, none⟩) [p0.fRaft.fMe].length 1, 3, 1, [p0.fRaft.fMe].length, [p0.fRaft.fMe].flatMap (fun x : Int => [Value.int .i64 x])⟩) :: R, φ46⟩ (fun _ h => h) <| c_ret <| d_ret_then ?_
  cases hm
  refine d_sta _ (fun W h => ok_frontR (t := 100434) (t' := 2004) h rfl) ?_
  exact d_retC (A29, c30, A32, c33, A35, c36, A38, c39, A41, c42, ps44) Try.results41 (res_agg (tag := 100020) rfl rfl Try.isAgg84 Try.sizeOf84 (res_tmp (res_nil rfl))) ⟨hc30, hc33, hc36, hc39, ⟨hc42.1, hc42.2⟩⟩ (fun W h => ((((h.dropR (t := 100370) rfl).dropR (t := 100270) rfl).dropH (t := 100020) rfl).dropH (t := 100010) rfl).phi (fun W hφ => ⟨(q46 _ hφ), (fun W h => f31 W h) W hφ, (fun W h => f34 W h) W hφ, (fun W h => f37 W h) W hφ, (fun W h => f40 W h) W hφ, (fun W h => (f45 W h)) W hφ⟩)) (.inr rfl)
 replace hm := ite_f hm (bool_nt h25)
 refine c_skip <| d_then <| c_seq <| c_region <| g_v rfl r_assign <| g_nil <| d_then <| c_seq <| c_region <| g_v rfl r_assign ?_
 refine g_nil <| d_then <| c_seq <| c_seq <| c_region <| g_v rfl (r_loadA (tag := 100010) rfl rfl Try.isAgg84 Try.sizeOf84 rfl rfl) ?_
 refine g_shut (tag := 100270) rfl (fun φ48 q48' => ?_)
 have q48 : ∀ W, φ48 W → φ W := fun W h => (q48' W h).1
 have f49 := fun (W : World) (h : φ48 W) => (q48' W h).2
 replace hm := bnd hm
 obtain ⟨x50, hx51, hm⟩ := hm
 refine g_cn ⟨w0, M, _, _, φ48⟩ (fun _ h => h) Try.call66 rfl rfl (c_raft_state_others (⟨(⟨p0.fRaft.fMe, 1, 0, p0.fRaft.fCommit, p0.fRaft.fLeft, (⟨w64 (p0.fRaft.fHard.fTerm + 1), w64 (p0.fRaft.fMe + 1), p0.fRaft.fHard.fVoters, p0.fRaft.fHard.fSnap, p0.fRaft.fHard.fLog⟩ : GHard), [p0.fRaft.fMe], ([] : List GMark)⟩ : GRaft)⟩ : Graft_state) Ap0_0 cp0_0 hcp0_0 (fun W h => fp0_0 W (q48 _ h)) Ap0_1 cp0_1 hcp0_1 (fun W h => fp0_1 W (q48 _ h)) (some ⟨g3, 0, none⟩) 1 (Nat.le_refl _) (fun W h => f49 W h) none 0 (Nat.le_refl 0) (fun W _ => Cl.nil _ _) _ hx51) (fun ⟨A52, c53⟩ hc53 => ?_)
 refine g_sta _ (fun W h => (ok_frontR (t := 2000) (t' := 100470) h rfl)) <| g_v rfl (r_lenL Try.underlying23 rfl) <| g_v rfl r_move <| g_nil <| d_then ?_
 refine c_flat [(1, .pointer (some ⟨g1, 0, none⟩)), (2, .pointer (some ⟨g2, 0, none⟩)), (4, .slice none 0 0), (5, .func (.func 65) #[] #[]), (47, .slice A52 x50.length c53), (48, .int .i64 (x50.length : Int)), (49, .int .i64 0)] ⟨rfl, rfl, rfl, rfl, rfl, rfl, rfl, trivial⟩ (fun u => ?_)
 refine c_sta ⟨w0, M, (100020, g2, .cells #[.int .i64 0, .int .i64 0, .int .i64 0, .int .i64 0, .int .i64 0, .int .i64 0, .int .i64 0, .slice none 0 0, .string (⟨#[]⟩ : ByteArray), .int .i64 0, .int .i64 0, .slice none 0 0, .slice none 0 0, .slice none 0 0] 84 (0, 0)) :: (100010, g1, .cells #[.int .i64 p0.fRaft.fMe, .int .i64 1, .int .i64 0, .int .i64 p0.fRaft.fCommit, .int .i64 p0.fRaft.fLeft, .int .i64 (w64 (p0.fRaft.fHard.fTerm + 1)), .int .i64 (w64 (p0.fRaft.fMe + 1)), .slice Ap0_0 p0.fRaft.fHard.fVoters.length cp0_0, .string p0.fRaft.fHard.fSnap, .int .i64 p0.fRaft.fHard.fLog.fBase, .int .i64 p0.fRaft.fHard.fLog.fBaseTerm, .slice Ap0_1 p0.fRaft.fHard.fLog.fEntries.length cp0_1, .slice (some ⟨g3, 0, none⟩) [p0.fRaft.fMe].length 1, .slice none 0 0] 84 (0, 0)) :: H, (100470, ⟨.slice A52 x50.length c53, 3, 1, x50.length, x50.flatMap (fun x : Int => [Value.int .i64 x])⟩) :: (100370, ⟨.slice A20 x18.length c21, 3, 1, x18.length, x18.flatMap (fun x : Int => [Value.int .i64 x])⟩) :: R, φ48⟩ (fun _ h => h) <| c_sta _ (fun W h => nilR h 13 25 11) ?_
 refine c_cut (ι := (List GNote) × Int × Int × Option Addr × Nat × List GNoteP) [1, 2, 4] (fun ⟨l246, i251, i252, A247, c248, ps249⟩ => [(4, .slice A247 l246.length c248)]) (fun ⟨l246, i251, i252, A247, c248, ps249⟩ => ⟨w0, M, (100020, g2, .cells #[.int .i64 0, .int .i64 0, .int .i64 0, .int .i64 0, .int .i64 0, .int .i64 0, .int .i64 0, .slice none 0 0, .string (⟨#[]⟩ : ByteArray), .int .i64 0, .int .i64 0, .slice none 0 0, .slice none 0 0, .slice none 0 0] 84 (0, 0)) :: (100010, g1, .cells #[.int .i64 p0.fRaft.fMe, .int .i64 1, .int .i64 0, .int .i64 p0.fRaft.fCommit, .int .i64 p0.fRaft.fLeft, .int .i64 i251, .int .i64 i252, .slice Ap0_0 p0.fRaft.fHard.fVoters.length cp0_0, .string p0.fRaft.fHard.fSnap, .int .i64 p0.fRaft.fHard.fLog.fBase, .int .i64 p0.fRaft.fHard.fLog.fBaseTerm, .slice Ap0_1 p0.fRaft.fHard.fLog.fEntries.length cp0_1, .slice (some ⟨g3, 0, none⟩) [p0.fRaft.fMe].length 1, .slice none 0 0] 84 (0, 0)) :: H, (13, ⟨.slice A247 l246.length c248, 25, 11, l246.length, (l246.zip ps249).flatMap GNote.encP⟩) :: R, fun W => φ48 W ∧ DOwn GNote.ownP l246 ps249 W⟩) (fun ⟨l246, i251, i252, A247, c248, ps249⟩ => m_raft_state_stands_j1 p0 l246 i251 i252 = some r ∧ (DOk GNote.capP l246 ps249 ∧ l246.length ≤ c248)) ?_ (fun ⟨l246, i251, i252, A247, c248, ps249⟩ u ⟨hm, hc248⟩ => ?_)
 ·
  refine c_block ?_
  replace hm := bnd hm
  obtain ⟨out2, hl2, hr2⟩ := hm
  obtain ⟨n334', hl2⟩ := loop_lp hl2
  refine c_loopU (ι := Nat × (List GNote) × Int × Int × Int × Option Addr × Nat × List GNoteP) [1, 2, 4, 5, 47, 48, 49] (fun ⟨n334, l291, i296, i297, i298, A292, c293, ps294⟩ => [(4, .slice A292 l291.length c293), (49, .int .i64 i296)]) (fun ⟨n334, l291, i296, i297, i298, A292, c293, ps294⟩ => ⟨w0, M, (100020, g2, .cells #[.int .i64 0, .int .i64 0, .int .i64 0, .int .i64 0, .int .i64 0, .int .i64 0, .int .i64 0, .slice none 0 0, .string (⟨#[]⟩ : ByteArray), .int .i64 0, .int .i64 0, .slice none 0 0, .slice none 0 0, .slice none 0 0] 84 (0, 0)) :: (100010, g1, .cells #[.int .i64 p0.fRaft.fMe, .int .i64 1, .int .i64 0, .int .i64 p0.fRaft.fCommit, .int .i64 p0.fRaft.fLeft, .int .i64 i297, .int .i64 i298, .slice Ap0_0 p0.fRaft.fHard.fVoters.length cp0_0, .string p0.fRaft.fHard.fSnap, .int .i64 p0.fRaft.fHard.fLog.fBase, .int .i64 p0.fRaft.fHard.fLog.fBaseTerm, .slice Ap0_1 p0.fRaft.fHard.fLog.fEntries.length cp0_1, .slice (some ⟨g3, 0, none⟩) [p0.fRaft.fMe].length 1, .slice none 0 0] 84 (0, 0)) :: H, (13, ⟨.slice A292 l291.length c293, 25, 11, l291.length, (l291.zip ps294).flatMap GNote.encP⟩) :: (100470, ⟨.slice A52 x50.length c53, 3, 1, x50.length, x50.flatMap (fun x : Int => [Value.int .i64 x])⟩) :: R, fun W => φ48 W ∧ DOwn GNote.ownP l291 ps294 W⟩) (fun ⟨n334, l291, i296, i297, i298, A292, c293, ps294⟩ => Lp (fun s => m_raft_state_stands_s2 x50 p0 s.1 s.2.1 s.2.2.1 s.2.2.2) n334 (l291, i296, i297, i298) out2 ∧ (DOk GNote.capP l291 ps294 ∧ l291.length ≤ c293)) (fun ⟨n334, l291, i296, i297, i298, A292, c293, ps294⟩ => n334) (n334', ([] : List GNote), 0, w64 (p0.fRaft.fHard.fTerm + 1), w64 (p0.fRaft.fMe + 1), none, 0, ([] : List GNoteP)) ⟨hl2, ⟨DOk.nil, (Nat.le_refl 0)⟩⟩ ⟨rfl, rfl, rfl, rfl, rfl, rfl, rfl, trivial⟩ (fun W h => (h.dropR (t := 100370) rfl).phi (fun W hφ => ⟨hφ, (fun W h => DOwn.nil) W hφ⟩)) (fun ⟨n334, l291, i296, i297, i298, A292, c293, ps294⟩ u ⟨hlp, hc293⟩ => ?_)
  obtain ⟨o2, hm, hnx2⟩ := lp_step hlp
  clear hlp
  replace hm : m_raft_state_stands_s2 x50 p0 l291 i296 i297 i298 = some o2 := hm
  unfold m_raft_state_stands_s2 at hm
  refine c_abs (fun φ335 q335' => ?_)
  have q335 : ∀ W, φ335 W → φ48 W := fun W h => (q335' W h).1
  have f295 := fun (W : World) (h : φ335 W) => (q335' W h).2
  refine c_flat [(1, .pointer (some ⟨g1, 0, none⟩)), (2, .pointer (some ⟨g2, 0, none⟩)), (4, .slice A292 l291.length c293), (5, .func (.func 65) #[] #[]), (47, .slice A52 x50.length c53), (48, .int .i64 (x50.length : Int)), (49, .int .i64 i296)] ⟨rfl, rfl, rfl, rfl, rfl, rfl, rfl, trivial⟩ (fun u => ?_)
  refine c_sta ⟨w0, M, (100020, g2, .cells #[.int .i64 0, .int .i64 0, .int .i64 0, .int .i64 0, .int .i64 0, .int .i64 0, .int .i64 0, .slice none 0 0, .string (⟨#[]⟩ : ByteArray), .int .i64 0, .int .i64 0, .slice none 0 0, .slice none 0 0, .slice none 0 0] 84 (0, 0)) :: (100010, g1, .cells #[.int .i64 p0.fRaft.fMe, .int .i64 1, .int .i64 0, .int .i64 p0.fRaft.fCommit, .int .i64 p0.fRaft.fLeft, .int .i64 i297, .int .i64 i298, .slice Ap0_0 p0.fRaft.fHard.fVoters.length cp0_0, .string p0.fRaft.fHard.fSnap, .int .i64 p0.fRaft.fHard.fLog.fBase, .int .i64 p0.fRaft.fHard.fLog.fBaseTerm, .slice Ap0_1 p0.fRaft.fHard.fLog.fEntries.length cp0_1, .slice (some ⟨g3, 0, none⟩) [p0.fRaft.fMe].length 1, .slice none 0 0] 84 (0, 0)) :: H, (13, ⟨.slice A292 l291.length c293, 25, 11, l291.length, (l291.zip ps294).flatMap GNote.encP⟩) :: (100470, ⟨.slice A52 x50.length c53, 3, 1, x50.length, x50.flatMap (fun x : Int => [Value.int .i64 x])⟩) :: R, φ335⟩ (fun _ h => h) <| c_seq <| c_region <| g_v rfl (r_lss rfl rfl) <| g_nil <| d_then <| c_seq ?_
  refine c_cond rfl (fun h336 => ?_) (fun h336 => ?_)
  ·
   replace hm := ite_t hm (of_decide_eq_true h336)
   refine c_skip <| d_then <| c_seq <| c_block <| c_seq <| c_region ?_
   replace hm := bnd hm
   obtain ⟨x337, hx337, hm⟩ := hm
   refine g_know _ (fun W hS => cl_at (p := (Sta.ok ⟨w0, M, (100020, g2, .cells #[.int .i64 0, .int .i64 0, .int .i64 0, .int .i64 0, .int .i64 0, .int .i64 0, .int .i64 0, .slice none 0 0, .string (⟨#[]⟩ : ByteArray), .int .i64 0, .int .i64 0, .slice none 0 0, .slice none 0 0, .slice none 0 0] 84 (0, 0)) :: (100010, g1, .cells #[.int .i64 p0.fRaft.fMe, .int .i64 1, .int .i64 0, .int .i64 p0.fRaft.fCommit, .int .i64 p0.fRaft.fLeft, .int .i64 i297, .int .i64 i298, .slice Ap0_0 p0.fRaft.fHard.fVoters.length cp0_0, .string p0.fRaft.fHard.fSnap, .int .i64 p0.fRaft.fHard.fLog.fBase, .int .i64 p0.fRaft.fHard.fLog.fBaseTerm, .slice Ap0_1 p0.fRaft.fHard.fLog.fEntries.length cp0_1, .slice (some ⟨g3, 0, none⟩) [p0.fRaft.fMe].length 1, .slice none 0 0] 84 (0, 0)) :: H, (13, ⟨.slice A292 l291.length c293, 25, 11, l291.length, (l291.zip ps294).flatMap GNote.encP⟩) :: (100470, ⟨.slice A52 x50.length c53, 3, 1, x50.length, x50.flatMap (fun x : Int => [Value.int .i64 x])⟩) :: R, φ335⟩)) (sz := 1) (fun _ => rfl) (by decide) hS (fun W hS => rowCl (S := ⟨w0, M, (100020, g2, .cells #[.int .i64 0, .int .i64 0, .int .i64 0, .int .i64 0, .int .i64 0, .int .i64 0, .int .i64 0, .slice none 0 0, .string (⟨#[]⟩ : ByteArray), .int .i64 0, .int .i64 0, .slice none 0 0, .slice none 0 0, .slice none 0 0] 84 (0, 0)) :: (100010, g1, .cells #[.int .i64 p0.fRaft.fMe, .int .i64 1, .int .i64 0, .int .i64 p0.fRaft.fCommit, .int .i64 p0.fRaft.fLeft, .int .i64 i297, .int .i64 i298, .slice Ap0_0 p0.fRaft.fHard.fVoters.length cp0_0, .string p0.fRaft.fHard.fSnap, .int .i64 p0.fRaft.fHard.fLog.fBase, .int .i64 p0.fRaft.fHard.fLog.fBaseTerm, .slice Ap0_1 p0.fRaft.fHard.fLog.fEntries.length cp0_1, .slice (some ⟨g3, 0, none⟩) [p0.fRaft.fMe].length 1, .slice none 0 0] 84 (0, 0)) :: H, (13, ⟨.slice A292 l291.length c293, 25, 11, l291.length, (l291.zip ps294).flatMap GNote.encP⟩) :: (100470, ⟨.slice A52 x50.length c53, 3, 1, x50.length, x50.flatMap (fun x : Int => [Value.int .i64 x])⟩) :: R, φ335⟩) (tag := 100470) rfl W hS) hx337) ?_
   rintro ⟨ad338, hA340, f339⟩
   refine g_v rfl (r_ix Try.underlying23 Try.sizeOf3 rfl hA340 rfl hx337) <| g_v rfl (r_ld rfl Try.isAgg3 (fun W hS => Cl.head (f339 W hS))) <| g_v rfl r_assign <| g_nil <| d_then <| c_seq <| c_region <| g_v rfl r_move <| g_v rfl (r_loadA (tag := 100010) rfl rfl Try.isAgg84 Try.sizeOf84 rfl rfl) <| g_v rfl r_move ?_
   replace hm := bnd hm
   obtain ⟨x341, hx342, hm⟩ := hm
   refine g_cnv ⟨w0, M, _, _, φ335⟩ (fun _ h => h) Try.call65 rfl rfl rfl (c_raft_state_note (⟨(⟨p0.fRaft.fMe, 1, 0, p0.fRaft.fCommit, p0.fRaft.fLeft, (⟨i297, i298, p0.fRaft.fHard.fVoters, p0.fRaft.fHard.fSnap, p0.fRaft.fHard.fLog⟩ : GHard), [p0.fRaft.fMe], ([] : List GMark)⟩ : GRaft)⟩ : Graft_state) Ap0_0 cp0_0 hcp0_0 (fun W hS => fp0_0 W (q48 _ (q335 _ hS.now))) Ap0_1 cp0_1 hcp0_1 (fun W hS => fp0_1 W (q48 _ (q335 _ hS.now))) (some ⟨g3, 0, none⟩) 1 (Nat.le_refl _) (fun W hS => f49 W (q335 _ hS.now)) none 0 (Nat.le_refl 0) (fun W _ => Cl.nil _ _) 1 x337 _ hx342) (fun ⟨A343, c344, A346, c347⟩ ⟨hc344, hc347⟩ => ?_)
   refine g_abs (fun φ349 q349' => ?_)
   have q349 : ∀ W, φ349 W → φ335 W := fun W h => (q349' W h).1
   have f345 := fun (W : World) (h : φ349 W) => (q349' W h).2.1
   have f348 := fun (W : World) (h : φ349 W) => (q349' W h).2.2
   refine g_e rfl (e_alloc 100080 Try.zeroValue25) (fun g350 _ => ?_)
   refine g_storeL (tag := 100080) rfl rfl rfl rfl Try.sizeOf25 rfl rfl <| g_nil <| d_then ?_
   refine c_flat [(1, .pointer (some ⟨g1, 0, none⟩)), (2, .pointer (some ⟨g2, 0, none⟩)), (4, .slice A292 l291.length c293), (5, .func (.func 65) #[] #[]), (8, .pointer (some ⟨g350, 0, none⟩)), (47, .slice A52 x50.length c53), (48, .int .i64 (x50.length : Int)), (49, .int .i64 i296)] ⟨rfl, rfl, rfl, rfl, rfl, rfl, rfl, rfl, trivial⟩ (fun u => ?_)
   refine c_sta ⟨w0, M, (100080, g350, .cells #[.int .i64 x341.fKind, .int .i64 x341.fFrom, .int .i64 x341.fTo, .int .i64 x341.fTerm, .int .i64 x341.fIndex, .int .i64 x341.fLogTerm, .int .i64 x341.fCommit, .bool x341.fGood, .slice A343 x341.fEntries.length c344, .slice A346 x341.fVoters.length c347, .string x341.fSnap] 25 (0, 0)) :: (100020, g2, .cells #[.int .i64 0, .int .i64 0, .int .i64 0, .int .i64 0, .int .i64 0, .int .i64 0, .int .i64 0, .slice none 0 0, .string (⟨#[]⟩ : ByteArray), .int .i64 0, .int .i64 0, .slice none 0 0, .slice none 0 0, .slice none 0 0] 84 (0, 0)) :: (100010, g1, .cells #[.int .i64 p0.fRaft.fMe, .int .i64 1, .int .i64 0, .int .i64 p0.fRaft.fCommit, .int .i64 p0.fRaft.fLeft, .int .i64 i297, .int .i64 i298, .slice Ap0_0 p0.fRaft.fHard.fVoters.length cp0_0, .string p0.fRaft.fHard.fSnap, .int .i64 p0.fRaft.fHard.fLog.fBase, .int .i64 p0.fRaft.fHard.fLog.fBaseTerm, .slice Ap0_1 p0.fRaft.fHard.fLog.fEntries.length cp0_1, .slice (some ⟨g3, 0, none⟩) [p0.fRaft.fMe].length 1, .slice none 0 0] 84 (0, 0)) :: H, (13, ⟨.slice A292 l291.length c293, 25, 11, l291.length, (l291.zip ps294).flatMap GNote.encP⟩) :: (100470, ⟨.slice A52 x50.length c53, 3, 1, x50.length, x50.flatMap (fun x : Int => [Value.int .i64 x])⟩) :: R, φ349⟩ (fun _ h => h) <| c_seq <| c_region <| g_v rfl (r_loadA (tag := 100010) rfl rfl Try.isAgg84 Try.sizeOf84 rfl rfl) ?_
   replace hm := bnd hm
   obtain ⟨⟨x351, x352⟩, hx353, hm⟩ := hm
   refine g_cn ⟨w0, M, _, _, φ349⟩ (fun _ h => h) Try.call42 rfl rfl (c_raft_state_last (⟨(⟨p0.fRaft.fMe, 1, 0, p0.fRaft.fCommit, p0.fRaft.fLeft, (⟨i297, i298, p0.fRaft.fHard.fVoters, p0.fRaft.fHard.fSnap, p0.fRaft.fHard.fLog⟩ : GHard), [p0.fRaft.fMe], ([] : List GMark)⟩ : GRaft)⟩ : Graft_state) Ap0_0 cp0_0 hcp0_0 (fun W hS => fp0_0 W (q48 _ (q335 _ (q349 _ hS.now)))) Ap0_1 cp0_1 hcp0_1 (fun W hS => fp0_1 W (q48 _ (q335 _ (q349 _ hS.now)))) (some ⟨g3, 0, none⟩) 1 (Nat.le_refl _) (fun W hS => f49 W (q335 _ (q349 _ hS.now))) none 0 (Nat.le_refl 0) (fun W _ => Cl.nil _ _) _ hx353) (fun _ _ => ?_)
   refine g_v rfl r_move <| g_v rfl (r_extract rfl rfl) <| g_v rfl (r_extract rfl rfl) <| g_v rfl (r_field (n := 4) Try.underlying25 rfl Try.sizeOf3 rfl rfl) <| g_storeL (tag := 100080) rfl rfl rfl rfl Try.sizeOf3 rfl rfl <| g_v rfl (r_field (n := 5) Try.underlying25 rfl Try.sizeOf3 rfl rfl) <| g_storeL (tag := 100080) rfl rfl rfl rfl Try.sizeOf3 rfl rfl <| g_nil <| d_then ?_
   refine c_flat [(1, .pointer (some ⟨g1, 0, none⟩)), (2, .pointer (some ⟨g2, 0, none⟩)), (4, .slice A292 l291.length c293), (5, .func (.func 65) #[] #[]), (8, .pointer (some ⟨g350, 0, none⟩)), (47, .slice A52 x50.length c53), (48, .int .i64 (x50.length : Int)), (49, .int .i64 i296)] ⟨rfl, rfl, rfl, rfl, rfl, rfl, rfl, rfl, trivial⟩ (fun u => ?_)
   refine c_sta ⟨w0, M, (100080, g350, .cells #[.int .i64 x341.fKind, .int .i64 x341.fFrom, .int .i64 x341.fTo, .int .i64 x341.fTerm, .int .i64 x351, .int .i64 x352, .int .i64 x341.fCommit, .bool x341.fGood, .slice A343 x341.fEntries.length c344, .slice A346 x341.fVoters.length c347, .string x341.fSnap] 25 (0, 0)) :: (100020, g2, .cells #[.int .i64 0, .int .i64 0, .int .i64 0, .int .i64 0, .int .i64 0, .int .i64 0, .int .i64 0, .slice none 0 0, .string (⟨#[]⟩ : ByteArray), .int .i64 0, .int .i64 0, .slice none 0 0, .slice none 0 0, .slice none 0 0] 84 (0, 0)) :: (100010, g1, .cells #[.int .i64 p0.fRaft.fMe, .int .i64 1, .int .i64 0, .int .i64 p0.fRaft.fCommit, .int .i64 p0.fRaft.fLeft, .int .i64 i297, .int .i64 i298, .slice Ap0_0 p0.fRaft.fHard.fVoters.length cp0_0, .string p0.fRaft.fHard.fSnap, .int .i64 p0.fRaft.fHard.fLog.fBase, .int .i64 p0.fRaft.fHard.fLog.fBaseTerm, .slice Ap0_1 p0.fRaft.fHard.fLog.fEntries.length cp0_1, .slice (some ⟨g3, 0, none⟩) [p0.fRaft.fMe].length 1, .slice none 0 0] 84 (0, 0)) :: H, (13, ⟨.slice A292 l291.length c293, 25, 11, l291.length, (l291.zip ps294).flatMap GNote.encP⟩) :: (100470, ⟨.slice A52 x50.length c53, 3, 1, x50.length, x50.flatMap (fun x : Int => [Value.int .i64 x])⟩) :: R, φ349⟩ (fun _ h => h) <| c_region <| g_v rfl r_move <| g_v rfl (r_loadA (tag := 100080) rfl rfl Try.isAgg25 Try.sizeOf25 rfl rfl) ?_
   have hk356 := (DOk.cons (cap := GNote.capP) (x := (⟨x341.fKind, x341.fFrom, x341.fTo, x341.fTerm, x351, x352, x341.fCommit, x341.fGood, x341.fEntries, x341.fVoters, x341.fSnap⟩ : GNote)) (p := (⟨A343, c344, A346, c347⟩ : GNoteP)) (⟨hc344, hc347⟩) DOk.nil)
   have f357 := fun (W : World) (h : φ349 W) => (DOwn.cons (own := GNote.ownP) (x := (⟨x341.fKind, x341.fFrom, x341.fTo, x341.fTerm, x351, x352, x341.fCommit, x341.fGood, x341.fEntries, x341.fVoters, x341.fSnap⟩ : GNote)) (p := (⟨A343, c344, A346, c347⟩ : GNoteP)) (⟨f345 W h, f348 W h⟩) DOwn.nil)
   refine g_e rfl (e_litD (tag := 100660) (enc := GNote.encP) (sz := 11) hk356 rfl Try.underlying48 (lit25_8 _ _ _ _ _ _ _ _ _ _ _ _ _ _ _) rfl rfl (fun _ => rfl)) (fun g355 _ => ?_)
   replace hm := bnd hm
   obtain ⟨l358, hl358, hm⟩ := hm
   have hk361 := DOk.app (cap := GNote.capP) hc293.1 hk356 hl358
   have f362 := fun (W : World) (h : φ349 W) => DOwn.app (own := GNote.ownP) (cap := GNote.capP) hc293.1 hl358 (f295 W (q349 _ h)) (f357 W h)
   refine g_e rfl (e_appRD (enc := GNote.encP) (l := l291) (l1 := [(⟨x341.fKind, x341.fFrom, x341.fTo, x341.fTerm, x351, x352, x341.fCommit, x341.fGood, x341.fEntries, x341.fVoters, x341.fSnap⟩ : GNote)]) (l2 := l358) (tag := 13) hc293.1 hk356 Try.underlying48 inf25_9 rfl (by decide) (by decide) (fun _ => rfl) (fun _ => rfl) rfl hc293.2 rfl rfl (fun W hS => rowCl (tag := 100660) rfl W hS) hl358) (fun ⟨A359, c360⟩ hc360 => ?_)
   refine g_v rfl r_assign <| g_nil <| d_normal_block <| d_then <| c_region <| g_v rfl (r_add rfl rfl rfl) <| g_v rfl r_move <| g_nil ?_
   obtain ⟨n363, hn363, hlp⟩ := nx_inl hm hnx2
   exact d_round (n363, l358, w64 (i296 + 1), i297, i298, A359, c360, (ps294 ++ [(⟨A343, c344, A346, c347⟩ : GNoteP)])) ⟨hlp, ⟨hk361, hc360⟩⟩ hn363 ⟨rfl, rfl, rfl, rfl, rfl, rfl, rfl, trivial⟩ (fun W h => ((h.dropR (t := 100660) rfl).dropH (t := 100080) rfl).phi (fun W hφ => ⟨(q335 _ (q349 _ hφ)), (fun W h => (f362 W h)) W hφ⟩))
  replace hm := ite_f hm (of_decide_eq_false h336)
  refine c_exit <| d_exit_then <| d_exit_then <| d_exit_block ?_
  replace hm := nx_out (C := (fun e : (List GNote) × Int × Int => m_raft_state_stands_j1 p0 e.1 e.2.1 e.2.2 = some r)) hm hnx2 hr2
  exact d_round (l291, i297, i298, A292, c293, ps294) ⟨hm, ⟨hc293.1, hc293.2⟩⟩ Nat.zero_lt_one ⟨rfl, rfl, rfl, trivial⟩ (fun W h => (h.dropR (t := 100470) rfl).phi (fun W hφ => ⟨(q335 _ hφ), (fun W h => (f295 W h)) W hφ⟩))
 unfold m_raft_state_stands_j1 at hm
 refine d_abs (fun φ253 q253' => ?_)
 have q253 : ∀ W, φ253 W → φ48 W := fun W h => (q253' W h).1
 have f250 := fun (W : World) (h : φ253 W) => (q253' W h).2
 refine d_flat [(1, .pointer (some ⟨g1, 0, none⟩)), (2, .pointer (some ⟨g2, 0, none⟩)), (4, .slice A247 l246.length c248)] ⟨rfl, rfl, rfl, trivial⟩ (fun u => ?_)
 refine d_sta ⟨w0, M, (100020, g2, .cells #[.int .i64 0, .int .i64 0, .int .i64 0, .int .i64 0, .int .i64 0, .int .i64 0, .int .i64 0, .slice none 0 0, .string (⟨#[]⟩ : ByteArray), .int .i64 0, .int .i64 0, .slice none 0 0, .slice none 0 0, .slice none 0 0] 84 (0, 0)) :: (100010, g1, .cells #[.int .i64 p0.fRaft.fMe, .int .i64 1, .int .i64 0, .int .i64 p0.fRaft.fCommit, .int .i64 p0.fRaft.fLeft, .int .i64 i251, .int .i64 i252, .slice Ap0_0 p0.fRaft.fHard.fVoters.length cp0_0, .string p0.fRaft.fHard.fSnap, .int .i64 p0.fRaft.fHard.fLog.fBase, .int .i64 p0.fRaft.fHard.fLog.fBaseTerm, .slice Ap0_1 p0.fRaft.fHard.fLog.fEntries.length cp0_1, .slice (some ⟨g3, 0, none⟩) [p0.fRaft.fMe].length 1, .slice none 0 0] 84 (0, 0)) :: H, (13, ⟨.slice A247 l246.length c248, 25, 11, l246.length, (l246.zip ps249).flatMap GNote.encP⟩) :: R, φ253⟩ (fun _ h => h) <| d_then <| c_seq <| c_region <| g_v rfl (r_loadA (tag := 100010) rfl rfl Try.isAgg84 Try.sizeOf84 rfl rfl) <| g_v rfl r_move <| g_storeL (tag := 100020) rfl rfl rfl rfl Try.sizeOf84 rfl rfl <| g_v rfl r_assign <| g_nil <| d_then ?_
 refine c_ret ?_
 cases hm
 refine d_sta _ (fun W h => ok_frontR (t := 13) (t' := 2004) h rfl) ?_
 exact d_retC (Ap0_0, cp0_0, Ap0_1, cp0_1, some ⟨g3, 0, none⟩, 1, none, 0, A247, c248, ps249) Try.results41 (res_agg (tag := 100020) rfl rfl Try.isAgg84 Try.sizeOf84 (res_tmp (res_nil rfl))) ⟨hcp0_0, hcp0_1, (Nat.le_refl _), (Nat.le_refl 0), ⟨hc248.1, hc248.2⟩⟩ (fun W h => ((h.dropH (t := 100020) rfl).dropH (t := 100010) rfl).phi (fun W hφ => ⟨(q48 _ (q253 _ hφ)), (fun W h => fp0_0 W (q48 _ (q253 _ h))) W hφ, (fun W h => fp0_1 W (q48 _ (q253 _ h))) W hφ, (fun W h => f49 W (q253 _ h)) W hφ, (fun W _ => Cl.nil _ _) W hφ, (fun W h => (f250 W h)) W hφ⟩)) (.inr rfl)
noncomputable def m_raft_Tick (p0 : GRaft) (p1 : Int) : Option (GRaft × (List GNote)) :=
  if p0.fRole = 2 then
    (m_raft_state_all (⟨p0⟩ : Graft_state)).bind fun x21 =>
    some (p0, x21)
  else
    if 1 ≤ w64 (p0.fLeft - 1) then
      some ((⟨p0.fMe, p0.fRole, p0.fLeader, p0.fCommit, w64 (p0.fLeft - 1), p0.fHard, p0.fVotes, p0.fMarks⟩ : GRaft), ([] : List GNote))
    else
      (m_raft_state_voters (⟨(⟨p0.fMe, p0.fRole, p0.fLeader, p0.fCommit, (max p1 1), p0.fHard, p0.fVotes, p0.fMarks⟩ : GRaft)⟩ : Graft_state)).bind fun x52 =>
      (m_slices_Contains_35 x52 p0.fMe).bind fun x57 =>
      if x57 = true then
        if 1099511627776 ≤ p0.fHard.fTerm then
          some ((⟨p0.fMe, p0.fRole, p0.fLeader, p0.fCommit, (max p1 1), p0.fHard, p0.fVotes, p0.fMarks⟩ : GRaft), ([] : List GNote))
        else
          (m_plog_Last p0.fHard.fLog).bind fun x61 =>
          if 1099511627776 ≤ x61 then
            some ((⟨p0.fMe, p0.fRole, p0.fLeader, p0.fCommit, (max p1 1), p0.fHard, p0.fVotes, p0.fMarks⟩ : GRaft), ([] : List GNote))
          else
            (m_raft_state_stands (⟨(⟨p0.fMe, p0.fRole, p0.fLeader, p0.fCommit, (max p1 1), p0.fHard, p0.fVotes, p0.fMarks⟩ : GRaft)⟩ : Graft_state)).bind fun (z85 : Graft_state × (List GNote)) =>
            some (z85.1.fRaft, z85.2)
      else
        some ((⟨p0.fMe, p0.fRole, p0.fLeader, p0.fCommit, (max p1 1), p0.fHard, p0.fVotes, p0.fMarks⟩ : GRaft), ([] : List GNote))
theorem c_raft_Tick {w0 : World} {M : Nat → Prop} {H : List (Nat × Nat × Obj)} {R : List (Nat × Row)} {φ : World → Prop} (p0 : GRaft) (Ap0_0 : Option Addr) (cp0_0 : Nat) (hcp0_0 : p0.fHard.fVoters.length ≤ cp0_0) (fp0_0 : ∀ W, φ W → Cl W Ap0_0 (p0.fHard.fVoters.flatMap (fun x : Int => [Value.int .i64 x]))) (Ap0_1 : Option Addr) (cp0_1 : Nat) (hcp0_1 : p0.fHard.fLog.fEntries.length ≤ cp0_1) (fp0_1 : ∀ W, φ W → Cl W Ap0_1 (p0.fHard.fLog.fEntries.flatMap GEntry.enc)) (Ap0_2 : Option Addr) (cp0_2 : Nat) (hcp0_2 : p0.fVotes.length ≤ cp0_2) (fp0_2 : ∀ W, φ W → Cl W Ap0_2 (p0.fVotes.flatMap (fun x : Int => [Value.int .i64 x]))) (Ap0_3 : Option Addr) (cp0_3 : Nat) (hcp0_3 : p0.fMarks.length ≤ cp0_3) (fp0_3 : ∀ W, φ W → Cl W Ap0_3 (p0.fMarks.flatMap GMark.enc)) (p1 : Int) (r : GRaft × (List GNote)) (hm : m_raft_Tick p0 p1 = some r) :
    Cn Try.prog 18 #[.agg #[.int .i64 p0.fMe, .int .i64 p0.fRole, .int .i64 p0.fLeader, .int .i64 p0.fCommit, .int .i64 p0.fLeft, .int .i64 p0.fHard.fTerm, .int .i64 p0.fHard.fVote, .slice Ap0_0 p0.fHard.fVoters.length cp0_0, .string p0.fHard.fSnap, .int .i64 p0.fHard.fLog.fBase, .int .i64 p0.fHard.fLog.fBaseTerm, .slice Ap0_1 p0.fHard.fLog.fEntries.length cp0_1, .slice Ap0_2 p0.fVotes.length cp0_2, .slice Ap0_3 p0.fMarks.length cp0_3], .int .i64 p1] ⟨w0, M, H, R, φ⟩ (fun x : Option Addr × Nat × Option Addr × Nat × Option Addr × Nat × Option Addr × Nat × Option Addr × Nat × List GNoteP => .tuple #[.agg #[.int .i64 r.1.fMe, .int .i64 r.1.fRole, .int .i64 r.1.fLeader, .int .i64 r.1.fCommit, .int .i64 r.1.fLeft, .int .i64 r.1.fHard.fTerm, .int .i64 r.1.fHard.fVote, .slice x.1 r.1.fHard.fVoters.length x.2.1, .string r.1.fHard.fSnap, .int .i64 r.1.fHard.fLog.fBase, .int .i64 r.1.fHard.fLog.fBaseTerm, .slice x.2.2.1 r.1.fHard.fLog.fEntries.length x.2.2.2.1, .slice x.2.2.2.2.1 r.1.fVotes.length x.2.2.2.2.2.1, .slice x.2.2.2.2.2.2.1 r.1.fMarks.length x.2.2.2.2.2.2.2.1], .slice x.2.2.2.2.2.2.2.2.1 r.2.length x.2.2.2.2.2.2.2.2.2.1]) (fun x => r.1.fHard.fVoters.length ≤ x.2.1 ∧ r.1.fHard.fLog.fEntries.length ≤ x.2.2.2.1 ∧ r.1.fVotes.length ≤ x.2.2.2.2.2.1 ∧ r.1.fMarks.length ≤ x.2.2.2.2.2.2.2.1 ∧ (DOk GNote.capP r.2 x.2.2.2.2.2.2.2.2.2.2 ∧ r.2.length ≤ x.2.2.2.2.2.2.2.2.2.1)) (fun x => ⟨w0, M, H, (2004, ⟨.slice x.2.2.2.2.2.2.2.2.1 r.2.length x.2.2.2.2.2.2.2.2.2.1, 25, 11, r.2.length, (r.2.zip x.2.2.2.2.2.2.2.2.2.2).flatMap GNote.encP⟩) :: R, fun W => φ W ∧ Cl W x.1 (r.1.fHard.fVoters.flatMap (fun x : Int => [Value.int .i64 x])) ∧ Cl W x.2.2.1 (r.1.fHard.fLog.fEntries.flatMap GEntry.enc) ∧ Cl W x.2.2.2.2.1 (r.1.fVotes.flatMap (fun x : Int => [Value.int .i64 x])) ∧ Cl W x.2.2.2.2.2.2.1 (r.1.fMarks.flatMap GMark.enc) ∧ DOwn GNote.ownP r.2 x.2.2.2.2.2.2.2.2.2.2 W⟩) := by
 unfold m_raft_Tick at hm
 refine cn_intro (fn := Try.f18) (N := 66) Try.func18 rfl Try.ntmps18 rfl <| c_seq <| c_region ?_
 refine g_e rfl (e_box 100020 rfl) (fun g1 _ => ?_)
 refine g_e rfl (e_alloc 100040 Try.zeroValue43) (fun g2 _ => ?_)
 refine g_v rfl r_assign <| g_nil <| d_then <| c_seq <| c_region <| g_v rfl (r_loadA (tag := 100020) rfl rfl Try.isAgg43 Try.sizeOf43 rfl rfl) <| g_v rfl (r_build _ rfl (bld84_3 _ _ _ _ _ _ _ _ _ _ _ _ _ _ _ _ _ _ _ _ _ _)) ?_
 refine g_e rfl (e_alloc 100060 Try.zeroValue84) (fun g3 _ => ?_)
 refine g_storeL (tag := 100060) rfl rfl rfl rfl Try.sizeOf84 rfl rfl <| g_nil <| d_then <| c_seq <| c_seq <| c_region <| g_v rfl (r_field (n := 0) Try.underlying84 rfl Try.sizeOf43 rfl rfl) <| g_v rfl (r_field (n := 1) Try.underlying43 rfl Try.sizeOf3 rfl rfl) <| g_v rfl (r_load (tag := 100060) rfl rfl rfl Try.isAgg3) <| g_v rfl (r_eql rfl rfl) ?_
 refine g_nil <| d_then ?_
 refine c_flat [(1, .int .i64 p1), (2, .pointer (some ⟨g1, 0, none⟩)), (4, .pointer (some ⟨g2, 0, none⟩)), (6, .pointer (some ⟨g3, 0, none⟩)), (14, .bool (decide (p0.fRole = 2)))] ⟨rfl, rfl, rfl, rfl, rfl, trivial⟩ (fun u => ?_)
 refine c_sta ⟨w0, M, (100060, g3, .cells #[.int .i64 p0.fMe, .int .i64 p0.fRole, .int .i64 p0.fLeader, .int .i64 p0.fCommit, .int .i64 p0.fLeft, .int .i64 p0.fHard.fTerm, .int .i64 p0.fHard.fVote, .slice Ap0_0 p0.fHard.fVoters.length cp0_0, .string p0.fHard.fSnap, .int .i64 p0.fHard.fLog.fBase, .int .i64 p0.fHard.fLog.fBaseTerm, .slice Ap0_1 p0.fHard.fLog.fEntries.length cp0_1, .slice Ap0_2 p0.fVotes.length cp0_2, .slice Ap0_3 p0.fMarks.length cp0_3] 84 (0, 0)) :: (100040, g2, .cells #[.int .i64 0, .int .i64 0, .int .i64 0, .int .i64 0, .int .i64 0, .int .i64 0, .int .i64 0, .slice none 0 0, .string (⟨#[]⟩ : ByteArray), .int .i64 0, .int .i64 0, .slice none 0 0, .slice none 0 0, .slice none 0 0] 43 (0, 0)) :: (100020, g1, .cells #[.int .i64 p0.fMe, .int .i64 p0.fRole, .int .i64 p0.fLeader, .int .i64 p0.fCommit, .int .i64 p0.fLeft, .int .i64 p0.fHard.fTerm, .int .i64 p0.fHard.fVote, .slice Ap0_0 p0.fHard.fVoters.length cp0_0, .string p0.fHard.fSnap, .int .i64 p0.fHard.fLog.fBase, .int .i64 p0.fHard.fLog.fBaseTerm, .slice Ap0_1 p0.fHard.fLog.fEntries.length cp0_1, .slice Ap0_2 p0.fVotes.length cp0_2, .slice Ap0_3 p0.fMarks.length cp0_3] 43 (0, 0)) :: H, R, φ⟩ (fun _ h => h) ?_
 refine c_cond rfl (fun h4 => ?_) (fun h4 => ?_)
 ·
  replace hm := ite_t hm (of_decide_eq_true h4)
  refine c_seq <| ga_start (n := 5) ⟨w0, M, (100060, g3, .cells #[.int .i64 p0.fMe, .int .i64 p0.fRole, .int .i64 p0.fLeader, .int .i64 p0.fCommit, .int .i64 p0.fLeft, .int .i64 p0.fHard.fTerm, .int .i64 p0.fHard.fVote, .slice Ap0_0 p0.fHard.fVoters.length cp0_0, .string p0.fHard.fSnap, .int .i64 p0.fHard.fLog.fBase, .int .i64 p0.fHard.fLog.fBaseTerm, .slice Ap0_1 p0.fHard.fLog.fEntries.length cp0_1, .slice Ap0_2 p0.fVotes.length cp0_2, .slice Ap0_3 p0.fMarks.length cp0_3] 84 (0, 0)) :: (100040, g2, .cells #[.int .i64 0, .int .i64 0, .int .i64 0, .int .i64 0, .int .i64 0, .int .i64 0, .int .i64 0, .slice none 0 0, .string (⟨#[]⟩ : ByteArray), .int .i64 0, .int .i64 0, .slice none 0 0, .slice none 0 0, .slice none 0 0] 43 (0, 0)) :: (100020, g1, .cells #[.int .i64 p0.fMe, .int .i64 p0.fRole, .int .i64 p0.fLeader, .int .i64 p0.fCommit, .int .i64 p0.fLeft, .int .i64 p0.fHard.fTerm, .int .i64 p0.fHard.fVote, .slice Ap0_0 p0.fHard.fVoters.length cp0_0, .string p0.fHard.fSnap, .int .i64 p0.fHard.fLog.fBase, .int .i64 p0.fHard.fLog.fBaseTerm, .slice Ap0_1 p0.fHard.fLog.fEntries.length cp0_1, .slice Ap0_2 p0.fVotes.length cp0_2, .slice Ap0_3 p0.fMarks.length cp0_3] 43 (0, 0)) :: H, R, φ⟩ [3] #[false, false, false, false, false] (fun W h => h.phi (fun W hφ => hφ)) mixed rfl rfl <| ga_v (i := 0) (bz 5 1) rfl (by kernel_rfl) (fun _ _ _ _ h => h) rfl (r_loadA (tag := 100020) rfl rfl Try.isAgg43 Try.sizeOf43 rfl rfl) <| ga_r (i := 1) (bz 5 3) rfl (by kernel_rfl) (by decide) rfl (r_loadA (tag := 100060) rfl rfl Try.isAgg84 Try.sizeOf84 rfl rfl) ?_
  replace hm := bnd hm
  obtain ⟨x21, hx22, hm⟩ := hm
  refine ga_cn (first := #[]) (i := 2) (bz 5 7) rfl (by kernel_rfl) (by decide)  ⟨w0, M, _, _, φ⟩ (fun _ h => h) Try.call39 rfl rfl rfl (c_raft_state_all (⟨p0⟩ : Graft_state) Ap0_0 cp0_0 hcp0_0 (fun W h => fp0_0 W h) Ap0_1 cp0_1 hcp0_1 (fun W hS => fp0_1 W hS.now) Ap0_2 cp0_2 hcp0_2 (fun W hS => fp0_2 W hS.now) Ap0_3 cp0_3 hcp0_3 (fun W hS => fp0_3 W hS.now) _ hx22) (fun ⟨A23, c24, ps26⟩ W hc24 h => (((ok_frontR (t := 2000) (t' := 100170) h rfl).phi (fun _ hh => hh.1)).dropR (t := 100170) rfl).phi (fun W hφ => hφ)) (fun ⟨A23, c24, ps26⟩ hc24 => ?_)
  refine ga_sta _ (fun W h => (ok_frontR (t := 2000) (t' := 100170) h rfl)) ?_
  refine ga_abs (fun φ28 q28' => ?_)
  have q28 : ∀ W, φ28 W → φ W := fun W h => (q28' W h).1
  have f27 := fun (W : World) (h : φ28 W) => (q28' W h).2
  refine ga_lastL (i := 3) (tag := 100040) (bz 5 15) rfl (by kernel_rfl) (by decide) rfl rfl rfl rfl Try.sizeOf43 rfl rfl <| gz_p (i := 4) (bz 5 31) rfl (.inr rfl) (by kernel_rfl) (fun _ _ _ _ h => h) rfl <| gz_done (by kernel_rfl) <| d_then <| c_ret <| d_ret_then ?_
  cases hm
  refine d_sta _ (fun W h => ok_frontR (t := 100170) (t' := 2004) h rfl) ?_
  exact d_retC (Ap0_0, cp0_0, Ap0_1, cp0_1, Ap0_2, cp0_2, Ap0_3, cp0_3, A23, c24, ps26) Try.results18 (res_agg (tag := 100040) rfl rfl Try.isAgg43 Try.sizeOf43 (res_tmp (res_nil rfl))) ⟨hcp0_0, hcp0_1, hcp0_2, hcp0_3, ⟨hc24.1, hc24.2⟩⟩ (fun W h => (((h.dropH (t := 100060) rfl).dropH (t := 100040) rfl).dropH (t := 100020) rfl).phi (fun W hφ => ⟨(q28 _ hφ), (fun W h => fp0_0 W (q28 _ h)) W hφ, (fun W h => fp0_1 W (q28 _ h)) W hφ, (fun W h => fp0_2 W (q28 _ h)) W hφ, (fun W h => fp0_3 W (q28 _ h)) W hφ, (fun W h => (f27 W h)) W hφ⟩)) (.inr rfl)
 replace hm := ite_f hm (of_decide_eq_false h4)
 refine c_skip <| d_then <| c_seq <| c_region <| g_v rfl (r_field (n := 0) Try.underlying84 rfl Try.sizeOf43 rfl rfl) <| g_v rfl (r_field (n := 4) Try.underlying43 rfl Try.sizeOf3 rfl rfl) <| g_v rfl (r_load (tag := 100060) rfl rfl rfl Try.isAgg3) <| g_v rfl (r_sub rfl rfl rfl) <| g_v rfl (r_field (n := 0) Try.underlying84 rfl Try.sizeOf43 rfl rfl) <| g_v rfl (r_field (n := 4) Try.underlying43 rfl Try.sizeOf3 rfl rfl) ?_
 refine g_storeL (tag := 100060) rfl rfl rfl rfl Try.sizeOf3 rfl rfl <| g_nil <| d_then <| c_seq <| c_seq <| c_region <| g_v rfl (r_field (n := 0) Try.underlying84 rfl Try.sizeOf43 rfl rfl) <| g_v rfl (r_field (n := 4) Try.underlying43 rfl Try.sizeOf3 rfl rfl) <| g_v rfl (r_load (tag := 100060) rfl rfl rfl Try.isAgg3) <| g_v rfl (r_geq rfl rfl) ?_
 refine g_nil <| d_then ?_
 refine c_flat [(1, .int .i64 p1), (4, .pointer (some ⟨g2, 0, none⟩)), (6, .pointer (some ⟨g3, 0, none⟩)), (27, .bool (decide (1 ≤ w64 (p0.fLeft - 1))))] ⟨rfl, rfl, rfl, rfl, trivial⟩ (fun u => ?_)
 refine c_sta ⟨w0, M, (100060, g3, .cells #[.int .i64 p0.fMe, .int .i64 p0.fRole, .int .i64 p0.fLeader, .int .i64 p0.fCommit, .int .i64 (w64 (p0.fLeft - 1)), .int .i64 p0.fHard.fTerm, .int .i64 p0.fHard.fVote, .slice Ap0_0 p0.fHard.fVoters.length cp0_0, .string p0.fHard.fSnap, .int .i64 p0.fHard.fLog.fBase, .int .i64 p0.fHard.fLog.fBaseTerm, .slice Ap0_1 p0.fHard.fLog.fEntries.length cp0_1, .slice Ap0_2 p0.fVotes.length cp0_2, .slice Ap0_3 p0.fMarks.length cp0_3] 84 (0, 0)) :: (100040, g2, .cells #[.int .i64 0, .int .i64 0, .int .i64 0, .int .i64 0, .int .i64 0, .int .i64 0, .int .i64 0, .slice none 0 0, .string (⟨#[]⟩ : ByteArray), .int .i64 0, .int .i64 0, .slice none 0 0, .slice none 0 0, .slice none 0 0] 43 (0, 0)) :: (100020, g1, .cells #[.int .i64 p0.fMe, .int .i64 p0.fRole, .int .i64 p0.fLeader, .int .i64 p0.fCommit, .int .i64 p0.fLeft, .int .i64 p0.fHard.fTerm, .int .i64 p0.fHard.fVote, .slice Ap0_0 p0.fHard.fVoters.length cp0_0, .string p0.fHard.fSnap, .int .i64 p0.fHard.fLog.fBase, .int .i64 p0.fHard.fLog.fBaseTerm, .slice Ap0_1 p0.fHard.fLog.fEntries.length cp0_1, .slice Ap0_2 p0.fVotes.length cp0_2, .slice Ap0_3 p0.fMarks.length cp0_3] 43 (0, 0)) :: H, R, φ⟩ (fun _ h => h) ?_
 refine c_cond rfl (fun h29 => ?_) (fun h29 => ?_)
 ·
  replace hm := ite_t hm (of_decide_eq_true h29)
  refine c_seq <| c_region <| g_v rfl (r_field (n := 0) Try.underlying84 rfl Try.sizeOf43 rfl rfl) <| g_v rfl (r_loadA (tag := 100060) rfl rfl Try.isAgg43 Try.sizeOf43 rfl rfl) <| g_storeL (tag := 100040) rfl rfl rfl rfl Try.sizeOf43 rfl rfl <| g_v rfl r_assign <| g_nil <| d_then <| c_ret <| d_ret_then ?_
  cases hm
  refine d_sta _ (fun W h => nilR h 11 25 11) <| d_sta _ (fun W h => ok_frontR (t := 11) (t' := 2004) h rfl) ?_
  exact d_retC (Ap0_0, cp0_0, Ap0_1, cp0_1, Ap0_2, cp0_2, Ap0_3, cp0_3, none, 0, ([] : List GNoteP)) Try.results18 (res_agg (tag := 100040) rfl rfl Try.isAgg43 Try.sizeOf43 (res_tmp (res_nil rfl))) ⟨hcp0_0, hcp0_1, hcp0_2, hcp0_3, ⟨DOk.nil, (Nat.le_refl 0)⟩⟩ (fun W h => (((h.dropH (t := 100060) rfl).dropH (t := 100040) rfl).dropH (t := 100020) rfl).phi (fun W hφ => ⟨hφ, (fun W h => fp0_0 W h) W hφ, (fun W h => fp0_1 W h) W hφ, (fun W h => fp0_2 W h) W hφ, (fun W h => fp0_3 W h) W hφ, (fun W h => DOwn.nil) W hφ⟩)) (.inr rfl)
 replace hm := ite_f hm (of_decide_eq_false h29)
 refine c_skip <| d_then <| c_seq <| c_region <| g_v rfl r_move <| g_v rfl (r_max rfl rfl) <| g_v rfl (r_field (n := 0) Try.underlying84 rfl Try.sizeOf43 rfl rfl) <| g_v rfl (r_field (n := 4) Try.underlying43 rfl Try.sizeOf3 rfl rfl) <| g_storeL (tag := 100060) rfl rfl rfl rfl Try.sizeOf3 rfl rfl <| g_nil ?_
 refine d_then <| c_seq <| c_seq <| ga_start (n := 22) ⟨w0, M, (100060, g3, .cells #[.int .i64 p0.fMe, .int .i64 p0.fRole, .int .i64 p0.fLeader, .int .i64 p0.fCommit, .int .i64 (max p1 1), .int .i64 p0.fHard.fTerm, .int .i64 p0.fHard.fVote, .slice Ap0_0 p0.fHard.fVoters.length cp0_0, .string p0.fHard.fSnap, .int .i64 p0.fHard.fLog.fBase, .int .i64 p0.fHard.fLog.fBaseTerm, .slice Ap0_1 p0.fHard.fLog.fEntries.length cp0_1, .slice Ap0_2 p0.fVotes.length cp0_2, .slice Ap0_3 p0.fMarks.length cp0_3] 84 (0, 0)) :: (100040, g2, .cells #[.int .i64 0, .int .i64 0, .int .i64 0, .int .i64 0, .int .i64 0, .int .i64 0, .int .i64 0, .slice none 0 0, .string (⟨#[]⟩ : ByteArray), .int .i64 0, .int .i64 0, .slice none 0 0, .slice none 0 0, .slice none 0 0] 43 (0, 0)) :: (100020, g1, .cells #[.int .i64 p0.fMe, .int .i64 p0.fRole, .int .i64 p0.fLeader, .int .i64 p0.fCommit, .int .i64 p0.fLeft, .int .i64 p0.fHard.fTerm, .int .i64 p0.fHard.fVote, .slice Ap0_0 p0.fHard.fVoters.length cp0_0, .string p0.fHard.fSnap, .int .i64 p0.fHard.fLog.fBase, .int .i64 p0.fHard.fLog.fBaseTerm, .slice Ap0_1 p0.fHard.fLog.fEntries.length cp0_1, .slice Ap0_2 p0.fVotes.length cp0_2, .slice Ap0_3 p0.fMarks.length cp0_3] 43 (0, 0)) :: H, R, φ⟩ [] #[false, false, false, false, false, false, false, false, false, false, false, false, false, false, false, false, false, false, false, false, false, false] (fun W h => h.phi (fun W hφ => hφ)) mixed rfl rfl <| ga_v (i := 0) (bz 22 1) rfl (by kernel_rfl) (fun _ _ _ _ h => h) rfl (r_loadA (tag := 100060) rfl rfl Try.isAgg84 Try.sizeOf84 rfl rfl) <| ga_v (i := 2) (bz 22 5) rfl (by kernel_rfl) (fun _ _ _ _ h => h) rfl (r_field (n := 0) Try.underlying84 rfl Try.sizeOf43 rfl rfl) <| ga_v (i := 3) (bz 22 13) rfl (by kernel_rfl) (fun _ _ _ _ h => h) rfl (r_field (n := 0) Try.underlying43 rfl Try.sizeOf3 rfl rfl) <| ga_v (i := 4) (bz 22 29) rfl (by kernel_rfl) (fun _ _ _ _ h => h) rfl (r_load (tag := 100060) rfl rfl rfl Try.isAgg3) ?_
 replace hm := bnd hm
 obtain ⟨x52, hx53, hm⟩ := hm
 refine ga_cn (first := #[]) (i := 1) (bz 22 31) rfl (by kernel_rfl) (by decide)  ⟨w0, M, _, _, φ⟩ (fun _ h => h) Try.call40 rfl rfl rfl (c_raft_state_voters (⟨(⟨p0.fMe, p0.fRole, p0.fLeader, p0.fCommit, (max p1 1), p0.fHard, p0.fVotes, p0.fMarks⟩ : GRaft)⟩ : Graft_state) Ap0_0 cp0_0 hcp0_0 (fun W hS => fp0_0 W hS.now) Ap0_1 cp0_1 hcp0_1 (fun W hS => fp0_1 W hS.now) Ap0_2 cp0_2 hcp0_2 (fun W hS => fp0_2 W hS.now) Ap0_3 cp0_3 hcp0_3 (fun W hS => fp0_3 W hS.now) _ hx53) (fun ⟨A54, c55⟩ W hc55 h => ((ok_frontR (t := 2000) (t' := 100350) h rfl).dropR (t := 100350) rfl).phi (fun W hφ => hφ)) (fun ⟨A54, c55⟩ hc55 => ?_)
 refine ga_sta _ (fun W h => (ok_frontR (t := 2000) (t' := 100350) h rfl)) ?_
 replace hm := bnd hm
 obtain ⟨x57, hx58, hm⟩ := hm
 refine ga_cn (first := #[]) (i := 5) (bz 22 63) rfl (by kernel_rfl) (by decide)  ⟨w0, M, _, _, φ⟩ (fun _ h => h) Try.call35 rfl rfl rfl (c_slices_Contains_35 x52 A54 c55 hc55 (fun W hS => rowCl (tag := 100350) rfl W hS) p0.fMe _ hx58) (fun _ W _ h => (h.dropR (t := 100350) rfl).phi (fun W hφ => hφ)) (fun _ _ => ?_)
 refine ga_r (i := 6) (bz 22 127) rfl (by kernel_rfl) (by decide) rfl (r_not rfl) <| ga_r (i := 7) (bz 22 255) rfl (by kernel_rfl) (by decide) rfl (r_move) ?_
 refine ga_if (t := 41) rfl (fun h59 => ?_) (fun h59 => ?_)
 ·
  have h59' : x57 = false := by revert h59; cases x57 <;> simp
  replace hm := ite_f hm (bool_nt h59')
  refine ga_no (i := 8) (bz 22 511) rfl (by kernel_rfl) (fun _ _ _ _ h => h) rfl rfl rfl rfl rfl h59 <| ga_no (i := 9) (bz 22 1023) rfl (by kernel_rfl) (fun _ _ _ _ h => h) rfl rfl rfl rfl rfl h59 <| ga_no (i := 10) (bz 22 2047) rfl (by kernel_rfl) (fun _ _ _ _ h => h) rfl rfl rfl rfl rfl h59 <| ga_no (i := 11) (bz 22 4095) rfl (by kernel_rfl) (fun _ _ _ _ h => h) rfl rfl rfl rfl rfl h59 <| ga_no (i := 12) (bz 22 8191) rfl (by kernel_rfl) (fun _ _ _ _ h => h) rfl rfl rfl rfl rfl h59 <| ga_r (i := 13) (bz 22 16383) rfl (by kernel_rfl) (by decide) rfl (r_pick1 rfl h59) <| ga_r (i := 14) (bz 22 32767) rfl (by kernel_rfl) (by decide) rfl (r_move) <| ga_no (i := 15) (bz 22 65535) rfl (by kernel_rfl) (fun _ _ _ _ h => h) rfl rfl rfl rfl rfl rfl <| ga_no (i := 16) (bz 22 131071) rfl (by kernel_rfl) (fun _ _ _ _ h => h) rfl rfl rfl rfl rfl rfl <| ga_no (i := 17) (bz 22 262143) rfl (by kernel_rfl) (fun _ _ _ _ h => h) rfl rfl rfl rfl rfl rfl ?_
  refine ga_no (i := 18) (bz 22 524287) rfl (by kernel_rfl) (fun _ _ _ _ h => h) rfl rfl rfl rfl rfl rfl <| ga_no (i := 19) (bz 22 1048575) rfl (by kernel_rfl) (fun _ _ _ _ h => h) rfl rfl rfl rfl rfl rfl <| ga_no (i := 20) (bz 22 2097151) rfl (by kernel_rfl) (fun _ _ _ _ h => h) rfl rfl rfl rfl rfl rfl <| ga_r (i := 21) (bz 22 4194303) rfl (by kernel_rfl) (by decide) rfl (r_pick1 rfl rfl) <| ga_done (by kernel_rfl) <| d_then ?_
  refine c_flat [(4, .pointer (some ⟨g2, 0, none⟩)), (6, .pointer (some ⟨g3, 0, none⟩)), (55, .bool true)] ⟨rfl, rfl, rfl, trivial⟩ (fun u => ?_)
  refine c_sta ⟨w0, M, (100060, g3, .cells #[.int .i64 p0.fMe, .int .i64 p0.fRole, .int .i64 p0.fLeader, .int .i64 p0.fCommit, .int .i64 (max p1 1), .int .i64 p0.fHard.fTerm, .int .i64 p0.fHard.fVote, .slice Ap0_0 p0.fHard.fVoters.length cp0_0, .string p0.fHard.fSnap, .int .i64 p0.fHard.fLog.fBase, .int .i64 p0.fHard.fLog.fBaseTerm, .slice Ap0_1 p0.fHard.fLog.fEntries.length cp0_1, .slice Ap0_2 p0.fVotes.length cp0_2, .slice Ap0_3 p0.fMarks.length cp0_3] 84 (0, 0)) :: (100040, g2, .cells #[.int .i64 0, .int .i64 0, .int .i64 0, .int .i64 0, .int .i64 0, .int .i64 0, .int .i64 0, .slice none 0 0, .string (⟨#[]⟩ : ByteArray), .int .i64 0, .int .i64 0, .slice none 0 0, .slice none 0 0, .slice none 0 0] 43 (0, 0)) :: (100020, g1, .cells #[.int .i64 p0.fMe, .int .i64 p0.fRole, .int .i64 p0.fLeader, .int .i64 p0.fCommit, .int .i64 p0.fLeft, .int .i64 p0.fHard.fTerm, .int .i64 p0.fHard.fVote, .slice Ap0_0 p0.fHard.fVoters.length cp0_0, .string p0.fHard.fSnap, .int .i64 p0.fHard.fLog.fBase, .int .i64 p0.fHard.fLog.fBaseTerm, .slice Ap0_1 p0.fHard.fLog.fEntries.length cp0_1, .slice Ap0_2 p0.fVotes.length cp0_2, .slice Ap0_3 p0.fMarks.length cp0_3] 43 (0, 0)) :: H, (100350, ⟨.slice A54 x52.length c55, 3, 1, x52.length, x52.flatMap (fun x : Int => [Value.int .i64 x])⟩) :: R, φ⟩ (fun _ h => h) <| c_cond1 rfl rfl <| c_seq <| c_region <| g_v rfl (r_field (n := 0) Try.underlying84 rfl Try.sizeOf43 rfl rfl) <| g_v rfl (r_loadA (tag := 100060) rfl rfl Try.isAgg43 Try.sizeOf43 rfl rfl) <| g_storeL (tag := 100040) rfl rfl rfl rfl Try.sizeOf43 rfl rfl <| g_v rfl r_assign <| g_nil <| d_then ?_
  refine c_ret <| d_ret_then ?_
  cases hm
  refine d_sta _ (fun W h => nilR h 12 25 11) <| d_sta _ (fun W h => ok_frontR (t := 12) (t' := 2004) h rfl) ?_
  exact d_retC (Ap0_0, cp0_0, Ap0_1, cp0_1, Ap0_2, cp0_2, Ap0_3, cp0_3, none, 0, ([] : List GNoteP)) Try.results18 (res_agg (tag := 100040) rfl rfl Try.isAgg43 Try.sizeOf43 (res_tmp (res_nil rfl))) ⟨hcp0_0, hcp0_1, hcp0_2, hcp0_3, ⟨DOk.nil, (Nat.le_refl 0)⟩⟩ (fun W h => ((((h.dropR (t := 100350) rfl).dropH (t := 100060) rfl).dropH (t := 100040) rfl).dropH (t := 100020) rfl).phi (fun W hφ => ⟨hφ, (fun W h => fp0_0 W h) W hφ, (fun W h => fp0_1 W h) W hφ, (fun W h => fp0_2 W h) W hφ, (fun W h => fp0_3 W h) W hφ, (fun W h => DOwn.nil) W hφ⟩)) (.inr rfl)
 have h59' : x57 = true := by revert h59; cases x57 <;> simp
 replace hm := ite_t hm h59'
 refine ga_rG (i := 8) (bz 22 511) rfl (by kernel_rfl) (by decide) rfl rfl rfl rfl rfl h59 (r_field (n := 0) Try.underlying84 rfl Try.sizeOf43 rfl rfl) <| ga_rG (i := 9) (bz 22 1023) rfl (by kernel_rfl) (by decide) rfl rfl rfl rfl rfl h59 (r_field (n := 5) Try.underlying43 rfl Try.sizeOf40 rfl rfl) <| ga_rG (i := 10) (bz 22 2047) rfl (by kernel_rfl) (by decide) rfl rfl rfl rfl rfl h59 (r_field (n := 5) Try.underlying40 rfl Try.sizeOf3 rfl rfl) <| ga_rG (i := 11) (bz 22 4095) rfl (by kernel_rfl) (by decide) rfl rfl rfl rfl rfl h59 (r_load (tag := 100060) rfl rfl rfl Try.isAgg3) <| ga_rG (i := 12) (bz 22 8191) rfl (by kernel_rfl) (by decide) rfl rfl rfl rfl rfl h59 (r_geq rfl rfl) <| ga_r (i := 13) (bz 22 16383) rfl (by kernel_rfl) (by decide) rfl (r_pick0 rfl h59) <| ga_r (i := 14) (bz 22 32767) rfl (by kernel_rfl) (by decide) rfl (r_move) ?_
 refine ga_if (t := 48) rfl (fun h60 => ?_) (fun h60 => ?_)
 ·
  replace hm := ite_t hm (of_decide_eq_true h60)
  refine ga_no (i := 15) (bz 22 65535) rfl (by kernel_rfl) (fun _ _ _ _ h => h) rfl rfl rfl rfl rfl h60 <| ga_no (i := 16) (bz 22 131071) rfl (by kernel_rfl) (fun _ _ _ _ h => h) rfl rfl rfl rfl rfl h60 <| ga_no (i := 17) (bz 22 262143) rfl (by kernel_rfl) (fun _ _ _ _ h => h) rfl rfl rfl rfl rfl h60 <| ga_no (i := 18) (bz 22 524287) rfl (by kernel_rfl) (fun _ _ _ _ h => h) rfl rfl rfl rfl rfl h60 <| ga_no (i := 19) (bz 22 1048575) rfl (by kernel_rfl) (fun _ _ _ _ h => h) rfl rfl rfl rfl rfl h60 <| ga_no (i := 20) (bz 22 2097151) rfl (by kernel_rfl) (fun _ _ _ _ h => h) rfl rfl rfl rfl rfl h60 <| ga_r (i := 21) (bz 22 4194303) rfl (by kernel_rfl) (by decide) rfl (r_pick1 rfl h60) <| ga_done (by kernel_rfl) <| d_then ?_
  refine c_flat [(4, .pointer (some ⟨g2, 0, none⟩)), (6, .pointer (some ⟨g3, 0, none⟩)), (55, .bool true)] ⟨rfl, rfl, rfl, trivial⟩ (fun u => ?_)
  refine c_sta ⟨w0, M, (100060, g3, .cells #[.int .i64 p0.fMe, .int .i64 p0.fRole, .int .i64 p0.fLeader, .int .i64 p0.fCommit, .int .i64 (max p1 1), .int .i64 p0.fHard.fTerm, .int .i64 p0.fHard.fVote, .slice Ap0_0 p0.fHard.fVoters.length cp0_0, .string p0.fHard.fSnap, .int .i64 p0.fHard.fLog.fBase, .int .i64 p0.fHard.fLog.fBaseTerm, .slice Ap0_1 p0.fHard.fLog.fEntries.length cp0_1, .slice Ap0_2 p0.fVotes.length cp0_2, .slice Ap0_3 p0.fMarks.length cp0_3] 84 (0, 0)) :: (100040, g2, .cells #[.int .i64 0, .int .i64 0, .int .i64 0, .int .i64 0, .int .i64 0, .int .i64 0, .int .i64 0, .slice none 0 0, .string (⟨#[]⟩ : ByteArray), .int .i64 0, .int .i64 0, .slice none 0 0, .slice none 0 0, .slice none 0 0] 43 (0, 0)) :: (100020, g1, .cells #[.int .i64 p0.fMe, .int .i64 p0.fRole, .int .i64 p0.fLeader, .int .i64 p0.fCommit, .int .i64 p0.fLeft, .int .i64 p0.fHard.fTerm, .int .i64 p0.fHard.fVote, .slice Ap0_0 p0.fHard.fVoters.length cp0_0, .string p0.fHard.fSnap, .int .i64 p0.fHard.fLog.fBase, .int .i64 p0.fHard.fLog.fBaseTerm, .slice Ap0_1 p0.fHard.fLog.fEntries.length cp0_1, .slice Ap0_2 p0.fVotes.length cp0_2, .slice Ap0_3 p0.fMarks.length cp0_3] 43 (0, 0)) :: H, (100350, ⟨.slice A54 x52.length c55, 3, 1, x52.length, x52.flatMap (fun x : Int => [Value.int .i64 x])⟩) :: R, φ⟩ (fun _ h => h) <| c_cond1 rfl rfl <| c_seq <| c_region <| g_v rfl (r_field (n := 0) Try.underlying84 rfl Try.sizeOf43 rfl rfl) <| g_v rfl (r_loadA (tag := 100060) rfl rfl Try.isAgg43 Try.sizeOf43 rfl rfl) <| g_storeL (tag := 100040) rfl rfl rfl rfl Try.sizeOf43 rfl rfl <| g_v rfl r_assign <| g_nil <| d_then ?_
  refine c_ret <| d_ret_then ?_
  cases hm
  refine d_sta _ (fun W h => nilR h 13 25 11) <| d_sta _ (fun W h => ok_frontR (t := 13) (t' := 2004) h rfl) ?_
  exact d_retC (Ap0_0, cp0_0, Ap0_1, cp0_1, Ap0_2, cp0_2, Ap0_3, cp0_3, none, 0, ([] : List GNoteP)) Try.results18 (res_agg (tag := 100040) rfl rfl Try.isAgg43 Try.sizeOf43 (res_tmp (res_nil rfl))) ⟨hcp0_0, hcp0_1, hcp0_2, hcp0_3, ⟨DOk.nil, (Nat.le_refl 0)⟩⟩ (fun W h => ((((h.dropR (t := 100350) rfl).dropH (t := 100060) rfl).dropH (t := 100040) rfl).dropH (t := 100020) rfl).phi (fun W hφ => ⟨hφ, (fun W h => fp0_0 W h) W hφ, (fun W h => fp0_1 W h) W hφ, (fun W h => fp0_2 W h) W hφ, (fun W h => fp0_3 W h) W hφ, (fun W h => DOwn.nil) W hφ⟩)) (.inr rfl)
 replace hm := ite_f hm (of_decide_eq_false h60)
 refine ga_rG (i := 15) (bz 22 65535) rfl (by kernel_rfl) (by decide) rfl rfl rfl rfl rfl h60 (r_field (n := 0) Try.underlying84 rfl Try.sizeOf43 rfl rfl) <| ga_rG (i := 16) (bz 22 131071) rfl (by kernel_rfl) (by decide) rfl rfl rfl rfl rfl h60 (r_field (n := 5) Try.underlying43 rfl Try.sizeOf40 rfl rfl) <| ga_rG (i := 17) (bz 22 262143) rfl (by kernel_rfl) (by decide) rfl rfl rfl rfl rfl h60 (r_field (n := 9) Try.underlying40 rfl Try.sizeOf38 rfl rfl) <| ga_rG (i := 18) (bz 22 524287) rfl (by kernel_rfl) (by decide) rfl rfl rfl rfl rfl h60 (r_loadA (tag := 100060) rfl rfl Try.isAgg38 Try.sizeOf38 rfl rfl) ?_
 replace hm := bnd hm
 obtain ⟨x61, hx62, hm⟩ := hm
 refine ga_cnG (first := #[]) (i := 19) (bz 22 1048575) rfl (by kernel_rfl) (by decide) rfl rfl rfl rfl h60  ⟨w0, M, _, _, φ⟩ (fun _ h => h) Try.call21 rfl rfl rfl (c_plog_Last p0.fHard.fLog Ap0_1 cp0_1 hcp0_1 (fun W hS => fp0_1 W hS.now) _ hx62) (fun _ W _ h => (h.dropR (t := 100350) rfl).phi (fun W hφ => hφ)) (fun _ _ => ?_)
 refine ga_rG (i := 20) (bz 22 2097151) rfl (by kernel_rfl) (by decide) rfl rfl rfl rfl rfl h60 (r_geq rfl rfl) <| ga_r (i := 21) (bz 22 4194303) rfl (by kernel_rfl) (by decide) rfl (r_pick0 rfl h60) <| ga_done (by kernel_rfl) <| d_then ?_
 refine c_flat [(4, .pointer (some ⟨g2, 0, none⟩)), (6, .pointer (some ⟨g3, 0, none⟩)), (55, .bool (decide (1099511627776 ≤ x61)))] ⟨rfl, rfl, rfl, trivial⟩ (fun u => ?_)
 refine c_sta ⟨w0, M, (100060, g3, .cells #[.int .i64 p0.fMe, .int .i64 p0.fRole, .int .i64 p0.fLeader, .int .i64 p0.fCommit, .int .i64 (max p1 1), .int .i64 p0.fHard.fTerm, .int .i64 p0.fHard.fVote, .slice Ap0_0 p0.fHard.fVoters.length cp0_0, .string p0.fHard.fSnap, .int .i64 p0.fHard.fLog.fBase, .int .i64 p0.fHard.fLog.fBaseTerm, .slice Ap0_1 p0.fHard.fLog.fEntries.length cp0_1, .slice Ap0_2 p0.fVotes.length cp0_2, .slice Ap0_3 p0.fMarks.length cp0_3] 84 (0, 0)) :: (100040, g2, .cells #[.int .i64 0, .int .i64 0, .int .i64 0, .int .i64 0, .int .i64 0, .int .i64 0, .int .i64 0, .slice none 0 0, .string (⟨#[]⟩ : ByteArray), .int .i64 0, .int .i64 0, .slice none 0 0, .slice none 0 0, .slice none 0 0] 43 (0, 0)) :: (100020, g1, .cells #[.int .i64 p0.fMe, .int .i64 p0.fRole, .int .i64 p0.fLeader, .int .i64 p0.fCommit, .int .i64 p0.fLeft, .int .i64 p0.fHard.fTerm, .int .i64 p0.fHard.fVote, .slice Ap0_0 p0.fHard.fVoters.length cp0_0, .string p0.fHard.fSnap, .int .i64 p0.fHard.fLog.fBase, .int .i64 p0.fHard.fLog.fBaseTerm, .slice Ap0_1 p0.fHard.fLog.fEntries.length cp0_1, .slice Ap0_2 p0.fVotes.length cp0_2, .slice Ap0_3 p0.fMarks.length cp0_3] 43 (0, 0)) :: H, (100350, ⟨.slice A54 x52.length c55, 3, 1, x52.length, x52.flatMap (fun x : Int => [Value.int .i64 x])⟩) :: R, φ⟩ (fun _ h => h) ?_
 refine c_cond rfl (fun h63 => ?_) (fun h63 => ?_)
 ·
  replace hm := ite_t hm (of_decide_eq_true h63)
  refine c_seq <| c_region <| g_v rfl (r_field (n := 0) Try.underlying84 rfl Try.sizeOf43 rfl rfl) <| g_v rfl (r_loadA (tag := 100060) rfl rfl Try.isAgg43 Try.sizeOf43 rfl rfl) <| g_storeL (tag := 100040) rfl rfl rfl rfl Try.sizeOf43 rfl rfl <| g_v rfl r_assign <| g_nil <| d_then <| c_ret <| d_ret_then ?_
  cases hm
  refine d_sta _ (fun W h => nilR h 14 25 11) <| d_sta _ (fun W h => ok_frontR (t := 14) (t' := 2004) h rfl) ?_
  exact d_retC (Ap0_0, cp0_0, Ap0_1, cp0_1, Ap0_2, cp0_2, Ap0_3, cp0_3, none, 0, ([] : List GNoteP)) Try.results18 (res_agg (tag := 100040) rfl rfl Try.isAgg43 Try.sizeOf43 (res_tmp (res_nil rfl))) ⟨hcp0_0, hcp0_1, hcp0_2, hcp0_3, ⟨DOk.nil, (Nat.le_refl 0)⟩⟩ (fun W h => ((((h.dropR (t := 100350) rfl).dropH (t := 100060) rfl).dropH (t := 100040) rfl).dropH (t := 100020) rfl).phi (fun W hφ => ⟨hφ, (fun W h => fp0_0 W h) W hφ, (fun W h => fp0_1 W h) W hφ, (fun W h => fp0_2 W h) W hφ, (fun W h => fp0_3 W h) W hφ, (fun W h => DOwn.nil) W hφ⟩)) (.inr rfl)
 replace hm := ite_f hm (of_decide_eq_false h63)
 refine c_skip <| d_then <| c_seq <| c_region <| g_v rfl (r_loadA (tag := 100060) rfl rfl Try.isAgg84 Try.sizeOf84 rfl rfl) ?_
 replace hm := bnd hm
 obtain ⟨⟨x64, x65⟩, hx66, hm⟩ := hm
 refine g_cn ⟨w0, M, _, _, φ⟩ (fun _ h => h) Try.call41 rfl rfl (c_raft_state_stands (⟨(⟨p0.fMe, p0.fRole, p0.fLeader, p0.fCommit, (max p1 1), p0.fHard, p0.fVotes, p0.fMarks⟩ : GRaft)⟩ : Graft_state) Ap0_0 cp0_0 hcp0_0 (fun W h => fp0_0 W h) Ap0_1 cp0_1 hcp0_1 (fun W h => fp0_1 W h) Ap0_2 cp0_2 hcp0_2 (fun W hS => fp0_2 W hS.now) Ap0_3 cp0_3 hcp0_3 (fun W hS => fp0_3 W hS.now) _ hx66) (fun ⟨A67, c68, A70, c71, A73, c74, A76, c77, A79, c80, ps82⟩ ⟨hc68, hc71, hc74, hc77, hc80⟩ => ?_)
 refine g_sta _ (fun W h => (ok_frontR (t := 2004) (t' := 100604) h rfl)) ?_
 refine g_abs (fun φ84 q84' => ?_)
 have q84 : ∀ W, φ84 W → φ W := fun W h => (q84' W h).1
 have f69 := fun (W : World) (h : φ84 W) => (q84' W h).2.1
 have f72 := fun (W : World) (h : φ84 W) => (q84' W h).2.2.1
 have f75 := fun (W : World) (h : φ84 W) => (q84' W h).2.2.2.1
 have f78 := fun (W : World) (h : φ84 W) => (q84' W h).2.2.2.2.1
 have f83 := fun (W : World) (h : φ84 W) => (q84' W h).2.2.2.2.2
 refine g_v rfl r_move <| g_v rfl (r_extract rfl rfl) <| g_v rfl (r_extract rfl rfl) ?_
 refine g_e rfl (e_alloc 100070 Try.zeroValue84) (fun g86 _ => ?_)
 refine g_storeL (tag := 100070) rfl rfl rfl rfl Try.sizeOf84 rfl rfl <| g_v rfl r_assign <| g_nil <| d_then <| c_seq <| c_region <| g_v rfl (r_field (n := 0) Try.underlying84 rfl Try.sizeOf43 rfl rfl) <| g_v rfl (r_loadA (tag := 100070) rfl rfl Try.isAgg43 Try.sizeOf43 rfl rfl) <| g_v rfl r_move <| g_storeL (tag := 100040) rfl rfl rfl rfl Try.sizeOf43 rfl rfl ?_
 refine g_v rfl r_assign <| g_nil <| d_then ?_
 refine c_flat [(4, .pointer (some ⟨g2, 0, none⟩)), (5, .slice A79 x65.length c80)] ⟨rfl, rfl, trivial⟩ (fun u => ?_)
 refine c_sta ⟨w0, M, (100070, g86, .cells #[.int .i64 x64.fRaft.fMe, .int .i64 x64.fRaft.fRole, .int .i64 x64.fRaft.fLeader, .int .i64 x64.fRaft.fCommit, .int .i64 x64.fRaft.fLeft, .int .i64 x64.fRaft.fHard.fTerm, .int .i64 x64.fRaft.fHard.fVote, .slice A67 x64.fRaft.fHard.fVoters.length c68, .string x64.fRaft.fHard.fSnap, .int .i64 x64.fRaft.fHard.fLog.fBase, .int .i64 x64.fRaft.fHard.fLog.fBaseTerm, .slice A70 x64.fRaft.fHard.fLog.fEntries.length c71, .slice A73 x64.fRaft.fVotes.length c74, .slice A76 x64.fRaft.fMarks.length c77] 84 (0, 0)) :: (100060, g3, .cells #[.int .i64 p0.fMe, .int .i64 p0.fRole, .int .i64 p0.fLeader, .int .i64 p0.fCommit, .int .i64 (max p1 1), .int .i64 p0.fHard.fTerm, .int .i64 p0.fHard.fVote, .slice Ap0_0 p0.fHard.fVoters.length cp0_0, .string p0.fHard.fSnap, .int .i64 p0.fHard.fLog.fBase, .int .i64 p0.fHard.fLog.fBaseTerm, .slice Ap0_1 p0.fHard.fLog.fEntries.length cp0_1, .slice Ap0_2 p0.fVotes.length cp0_2, .slice Ap0_3 p0.fMarks.length cp0_3] 84 (0, 0)) :: (100040, g2, .cells #[.int .i64 x64.fRaft.fMe, .int .i64 x64.fRaft.fRole, .int .i64 x64.fRaft.fLeader, .int .i64 x64.fRaft.fCommit, .int .i64 x64.fRaft.fLeft, .int .i64 x64.fRaft.fHard.fTerm, .int .i64 x64.fRaft.fHard.fVote, .slice A67 x64.fRaft.fHard.fVoters.length c68, .string x64.fRaft.fHard.fSnap, .int .i64 x64.fRaft.fHard.fLog.fBase, .int .i64 x64.fRaft.fHard.fLog.fBaseTerm, .slice A70 x64.fRaft.fHard.fLog.fEntries.length c71, .slice A73 x64.fRaft.fVotes.length c74, .slice A76 x64.fRaft.fMarks.length c77] 43 (0, 0)) :: (100020, g1, .cells #[.int .i64 p0.fMe, .int .i64 p0.fRole, .int .i64 p0.fLeader, .int .i64 p0.fCommit, .int .i64 p0.fLeft, .int .i64 p0.fHard.fTerm, .int .i64 p0.fHard.fVote, .slice Ap0_0 p0.fHard.fVoters.length cp0_0, .string p0.fHard.fSnap, .int .i64 p0.fHard.fLog.fBase, .int .i64 p0.fHard.fLog.fBaseTerm, .slice Ap0_1 p0.fHard.fLog.fEntries.length cp0_1, .slice Ap0_2 p0.fVotes.length cp0_2, .slice Ap0_3 p0.fMarks.length cp0_3] 43 (0, 0)) :: H, (100604, ⟨.slice A79 x65.length c80, 25, 11, x65.length, (x65.zip ps82).flatMap GNote.encP⟩) :: (100350, ⟨.slice A54 x52.length c55, 3, 1, x52.length, x52.flatMap (fun x : Int => [Value.int .i64 x])⟩) :: R, φ84⟩ (fun _ h => h) <| c_ret ?_
 cases hm
 refine d_sta _ (fun W h => ok_frontR (t := 100604) (t' := 2004) h rfl) ?_
 exact d_retC (A67, c68, A70, c71, A73, c74, A76, c77, A79, c80, ps82) Try.results18 (res_agg (tag := 100040) rfl rfl Try.isAgg43 Try.sizeOf43 (res_tmp (res_nil rfl))) ⟨hc68, hc71, hc74, hc77, ⟨hc80.1, hc80.2⟩⟩ (fun W h => (((((h.dropR (t := 100350) rfl).dropH (t := 100070) rfl).dropH (t := 100060) rfl).dropH (t := 100040) rfl).dropH (t := 100020) rfl).phi (fun W hφ => ⟨(q84 _ hφ), (fun W h => f69 W h) W hφ, (fun W h => f72 W h) W hφ, (fun W h => f75 W h) W hφ, (fun W h => f78 W h) W hφ, (fun W h => (f83 W h)) W hφ⟩)) (.inr rfl)
theorem lit3_17 (z0 : Int) (z1 : Int) (z2 : Int) : Try.prog.builtSlice 3 3 [(0, .int .i64 z0), (1, .int .i64 z1), (2, .int .i64 z2)] = some #[.int .i64 z0, .int .i64 z1, .int .i64 z2] := by kernel_rfl
theorem bld25_18 (z0 : Int) (z1 : Int) (z2 : Int) (z3 : Int) (z4 : Bool) : ∀ W, (Instr.build 25 #[(0, .int .i64 z0), (1, .int .i64 z1), (2, .int .i64 z2), (3, .int .i64 z3), (7, .bool z4)]).run Try.prog W = .ok (.agg #[.int .i64 z0, .int .i64 z1, .int .i64 z2, .int .i64 z3, .int .i64 0, .int .i64 0, .int .i64 0, .bool z4, .slice none 0 0, .slice none 0 0, .string (⟨#[]⟩ : ByteArray)]) W := fun _ => by kernel_rfl
noncomputable def m_raft_node (p0 : Int) : Option Bool :=
  if 0 ≤ p0 then
    some (decide (p0 < 64))
  else
    some false
theorem c_raft_node {w0 : World} {M : Nat → Prop} {H : List (Nat × Nat × Obj)} {R : List (Nat × Row)} {φ : World → Prop} (p0 : Int) (r : Bool) (hm : m_raft_node p0 = some r) :
    Cn Try.prog 31 #[.int .i64 p0] ⟨w0, M, H, R, φ⟩ (fun x : Unit => .bool r) (fun x => True) (fun x => ⟨w0, M, H, R, φ⟩) := by
 unfold m_raft_node at hm
 refine cn_intro (fn := Try.f31) (N := 9) Try.func31 rfl Try.ntmps31 rfl <| c_seq <| c_region <| g_v rfl r_assign <| g_nil <| d_then <| c_seq <| c_region <| g_v rfl r_move <| g_v rfl (r_geq rfl rfl) ?_
 refine g_v rfl r_move ?_
 refine g_if rfl rfl rfl rfl rfl (fun h1 => ?_) (fun h1 => ?_)
 ·
  replace hm := ite_t hm (of_decide_eq_true h1)
  refine g_v rfl r_move <| g_do rfl rfl rfl rfl rfl h1 <| g_v rfl (r_lss rfl rfl) <| g_v rfl (r_pick1 rfl h1) <| g_v rfl r_assign <| g_nil <| d_then <| c_ret ?_
  cases hm
  exact d_retC () Try.results31 (res_tmp (res_nil rfl)) trivial (fun W h => ok_pre (H1 := []) (R1 := []) h (fun W hφ => hφ)) (.inr rfl)
 replace hm := ite_f hm (of_decide_eq_false h1)
 refine g_no rfl rfl rfl rfl rfl h1 <| g_v rfl (r_pick0 rfl h1) <| g_v rfl r_assign <| g_nil <| d_then <| c_ret ?_
 cases hm
 exact d_retC () Try.results31 (res_tmp (res_nil rfl)) trivial (fun W h => ok_pre (H1 := []) (R1 := []) h (fun W hφ => hφ)) (.inr rfl)
theorem bld38_19 (z0 : Int) (z1 : Int) (zA2 : Option Addr) (zn2 : Nat) (zc2 : Nat) : ∀ W, (Instr.build 38 #[(0, .int .i64 z0), (1, .int .i64 z1), (2, .slice zA2 zn2 zc2)]).run Try.prog W = .ok (.agg #[.int .i64 z0, .int .i64 z1, .slice zA2 zn2 zc2]) W := fun _ => by kernel_rfl
noncomputable def m_plog_within (p0 : Int) : Option Bool :=
  if 0 ≤ p0 then
    some (decide (p0 ≤ 1099511627776))
  else
    some false
theorem c_plog_within {w0 : World} {M : Nat → Prop} {H : List (Nat × Nat × Obj)} {R : List (Nat × Row)} {φ : World → Prop} (p0 : Int) (r : Bool) (hm : m_plog_within p0 = some r) :
    Cn Try.prog 53 #[.int .i64 p0] ⟨w0, M, H, R, φ⟩ (fun x : Unit => .bool r) (fun x => True) (fun x => ⟨w0, M, H, R, φ⟩) := by
 unfold m_plog_within at hm
 refine cn_intro (fn := Try.f53) (N := 9) Try.func53 rfl Try.ntmps53 rfl <| c_seq <| c_region <| g_v rfl r_assign <| g_nil <| d_then <| c_seq <| c_region <| g_v rfl r_move <| g_v rfl (r_geq rfl rfl) ?_
 refine g_v rfl r_move ?_
 refine g_if rfl rfl rfl rfl rfl (fun h1 => ?_) (fun h1 => ?_)
 ·
  replace hm := ite_t hm (of_decide_eq_true h1)
  refine g_v rfl r_move <| g_do rfl rfl rfl rfl rfl h1 <| g_v rfl (r_leq rfl rfl) <| g_v rfl (r_pick1 rfl h1) <| g_v rfl r_assign <| g_nil <| d_then <| c_ret ?_
  cases hm
  exact d_retC () Try.results53 (res_tmp (res_nil rfl)) trivial (fun W h => ok_pre (H1 := []) (R1 := []) h (fun W hφ => hφ)) (.inr rfl)
 replace hm := ite_f hm (of_decide_eq_false h1)
 refine g_no rfl rfl rfl rfl rfl h1 <| g_v rfl (r_pick0 rfl h1) <| g_v rfl r_assign <| g_nil <| d_then <| c_ret ?_
 cases hm
 exact d_retC () Try.results53 (res_tmp (res_nil rfl)) trivial (fun W h => ok_pre (H1 := []) (R1 := []) h (fun W hφ => hφ)) (.inr rfl)
noncomputable def m_plog_Check_j1  : Option Int :=
  some 0
noncomputable def m_plog_Check_s2 (p0 : GLog) (i84 : Int) (i85 : Int) : Option ((Int × Int) ⊕ (Unit ⊕ Int)) :=
  if i85 < (p0.fEntries.length : Int) then
    (at_ p0.fEntries i85).bind fun x112 =>
    if x112.fTerm < i84 then
      some (.inr (.inr 1))
    else
      (m_plog_within x112.fTerm).bind fun x118 =>
      if x118 = true then
        if x112.fKind < 0 then
          some (.inr (.inr 1))
        else
          if 2 < x112.fKind then
            some (.inr (.inr 1))
          else
            if 8000 < (x112.fData.size : Int) then
              some (.inr (.inr 1))
            else
              (m_plog_List x112.fData).bind fun (z130 : (List Int) × Bool) =>
              if x112.fKind = 1 then
                if z130.2 = true then
                  some (.inl (x112.fTerm, w64 (i85 + 1)))
                else
                  some (.inr (.inr 1))
              else
                some (.inl (x112.fTerm, w64 (i85 + 1)))
      else
        some (.inr (.inr 1))
  else
    some (.inr (.inl ()))
noncomputable def m_plog_Check (p0 : GLog) : Option Int :=
  (m_plog_within p0.fBase).bind fun x2 =>
  if x2 = true then
    (m_plog_within p0.fBaseTerm).bind fun x5 =>
    if x5 = true then
      if 100000 < (p0.fEntries.length : Int) then
        some 1
      else
        (loop (fun s => m_plog_Check_s2 p0 s.1 s.2) (p0.fBaseTerm, 0)).bind fun e => Sum.elim (fun e => m_plog_Check_j1) (fun x => some x) e
    else
      some 1
  else
    some 1
theorem c_plog_Check {w0 : World} {M : Nat → Prop} {H : List (Nat × Nat × Obj)} {R : List (Nat × Row)} {φ : World → Prop} (p0 : GLog) (Ap0_0 : Option Addr) (cp0_0 : Nat) (hcp0_0 : p0.fEntries.length ≤ cp0_0) (fp0_0 : ∀ W, (Sta.mk w0 M H R φ).ok W → Cl W Ap0_0 (p0.fEntries.flatMap GEntry.enc)) (r : Int) (hm : m_plog_Check p0 = some r) :
    Cn Try.prog 32 #[.agg #[.int .i64 p0.fBase, .int .i64 p0.fBaseTerm, .slice Ap0_0 p0.fEntries.length cp0_0]] ⟨w0, M, H, R, φ⟩ (fun x : Unit => .int .i64 r) (fun x => True) (fun x => ⟨w0, M, H, R, φ⟩) := by
 unfold m_plog_Check at hm
 refine cn_intro (fn := Try.f32) (N := 75) Try.func32 rfl Try.ntmps32 rfl <| c_seq <| c_region ?_
 refine g_e rfl (e_box 100010 rfl) (fun g1 _ => ?_)
 refine g_v rfl r_assign <| g_nil <| d_then <| c_seq <| c_seq <| c_region <| g_v rfl (r_field (n := 0) Try.underlying38 rfl Try.sizeOf3 rfl rfl) <| g_v rfl (r_load (tag := 100010) rfl rfl rfl Try.isAgg3) ?_
 replace hm := bnd hm
 obtain ⟨x2, hx3, hm⟩ := hm
 refine g_cn ⟨w0, M, _, _, φ⟩ (fun _ h => h) Try.call53 rfl rfl (c_plog_within p0.fBase _ hx3) (fun _ _ => ?_)
 refine g_v rfl (r_not rfl) <| g_v rfl r_move <| g_sta ⟨w0, M, (100010, g1, .cells #[.int .i64 p0.fBase, .int .i64 p0.fBaseTerm, .slice Ap0_0 p0.fEntries.length cp0_0] 38 (0, 0)) :: H, R, φ⟩ (fun _ h => h) ?_
 refine g_if rfl rfl rfl rfl rfl (fun h4 => ?_) (fun h4 => ?_)
 ·
  have h4' : x2 = true := by revert h4; cases x2 <;> simp
  replace hm := ite_t hm h4'
  refine g_v rfl (r_field (n := 1) Try.underlying38 rfl Try.sizeOf3 rfl rfl) <| g_do rfl rfl rfl rfl rfl h4 <| g_v rfl (r_load (tag := 100010) rfl rfl rfl Try.isAgg3) <| g_do rfl rfl rfl rfl rfl h4 ?_
  replace hm := bnd hm
  obtain ⟨x5, hx6, hm⟩ := hm
  refine g_cn ⟨w0, M, _, _, φ⟩ (fun _ h => h) Try.call53 rfl rfl (c_plog_within p0.fBaseTerm _ hx6) (fun _ _ => ?_)
  refine g_do rfl rfl rfl rfl rfl h4 <| g_v rfl (r_not rfl) <| g_v rfl (r_pick0 rfl h4) <| g_v rfl r_move ?_
  refine g_if rfl rfl rfl rfl rfl (fun h7 => ?_) (fun h7 => ?_)
  ·
   have h7' : x5 = true := by revert h7; cases x5 <;> simp
   replace hm := ite_t hm h7'
   refine g_v rfl (r_field (n := 2) Try.underlying38 rfl Try.sizeOf22 rfl rfl) <| g_do rfl rfl rfl rfl rfl h7 <| g_v rfl (r_load (tag := 100010) rfl rfl rfl Try.isAgg22) <| g_do rfl rfl rfl rfl rfl h7 <| g_v rfl (r_lenL Try.underlying22 rfl) <| g_do rfl rfl rfl rfl rfl h7 <| g_v rfl (r_gtr rfl rfl) <| g_v rfl (r_pick0 rfl h7) <| g_nil <| d_then ?_
   refine c_flat [(1, .pointer (some ⟨g1, 0, none⟩)), (23, .bool (decide (100000 < (p0.fEntries.length : Int))))] ⟨rfl, rfl, trivial⟩ (fun u => ?_)
   refine c_cond rfl (fun h8 => ?_) (fun h8 => ?_)
   ·
    replace hm := ite_t hm (of_decide_eq_true h8)
    refine c_seq <| c_region <| g_v rfl r_assign <| g_nil <| d_then <| c_ret <| d_ret_then ?_
    cases hm
    exact d_retC () Try.results32 (res_tmp (res_nil rfl)) trivial (fun W h => ok_pre (H1 := [_]) (R1 := []) h (fun W hφ => hφ)) (.inr rfl)
   replace hm := ite_f hm (of_decide_eq_false h8)
   refine c_skip <| d_then <| c_seq <| c_region <| g_v rfl (r_field (n := 1) Try.underlying38 rfl Try.sizeOf3 rfl rfl) <| g_v rfl (r_load (tag := 100010) rfl rfl rfl Try.isAgg3) <| g_v rfl r_assign <| g_nil <| d_then <| c_seq ?_
   refine c_seq <| c_region <| g_v rfl (r_field (n := 2) Try.underlying38 rfl Try.sizeOf22 rfl rfl) <| g_v rfl (r_load (tag := 100010) rfl rfl rfl Try.isAgg22) <| g_v rfl (r_lenL Try.underlying22 rfl) <| g_v rfl r_move <| g_nil <| d_then ?_
   refine c_cut (ι := Unit) [] (fun _ => []) (fun _ => ⟨w0, M, H, R, φ⟩) (fun _ => m_plog_Check_j1 = some r) ?_ (fun _ u hm => ?_)
   ·
    refine c_block ?_
    replace hm := bnd hm
    obtain ⟨out2, hl2, hr2⟩ := hm
    obtain ⟨n110', hl2⟩ := loop_lp hl2
    refine c_loopU (ι := Nat × Int × Int) [3, 27, 28, 29] (fun ⟨n110, i84, i85⟩ => [(3, .int .i64 i84), (29, .int .i64 i85)]) (fun ⟨n110, i84, i85⟩ => ⟨w0, M, H, R, φ⟩) (fun ⟨n110, i84, i85⟩ => Lp (fun s => m_plog_Check_s2 p0 s.1 s.2) n110 (i84, i85) out2) (fun ⟨n110, i84, i85⟩ => n110) (n110', p0.fBaseTerm, 0) hl2 ⟨rfl, rfl, rfl, rfl, trivial⟩ (fun W h => (h.dropH (t := 100010) rfl).phi (fun W hφ => hφ)) (fun ⟨n110, i84, i85⟩ u hlp => ?_)
    obtain ⟨o2, hm, hnx2⟩ := lp_step hlp
    clear hlp
    replace hm : m_plog_Check_s2 p0 i84 i85 = some o2 := hm
    unfold m_plog_Check_s2 at hm
    refine c_flat [(3, .int .i64 i84), (27, .slice Ap0_0 p0.fEntries.length cp0_0), (28, .int .i64 (p0.fEntries.length : Int)), (29, .int .i64 i85)] ⟨rfl, rfl, rfl, rfl, trivial⟩ (fun u => ?_)
    refine c_sta ⟨w0, M, H, R, φ⟩ (fun _ h => h) <| c_seq <| c_region <| g_v rfl (r_lss rfl rfl) <| g_nil <| d_then <| c_seq ?_
    refine c_cond rfl (fun h111 => ?_) (fun h111 => ?_)
    ·
     replace hm := ite_t hm (of_decide_eq_true h111)
     refine c_skip <| d_then <| c_seq <| c_block <| c_seq <| c_region ?_
     replace hm := bnd hm
     obtain ⟨x112, hx112, hm⟩ := hm
     refine g_know _ (fun W hS => cl_at (p := (Sta.mk w0 M H R φ).ok) (sz := 3) (fun _ => rfl) (by decide) (ok_pre (H1 := []) (R1 := []) hS (fun W h => h)) fp0_0 hx112) ?_
     rintro ⟨ad113, hA115, f114⟩
     refine g_v rfl (r_ix Try.underlying22 Try.sizeOf36 rfl hA115 rfl hx112) <| g_v rfl (r_ldA rfl Try.isAgg36 Try.sizeOf36 (fun W hS => (f114 W (ok_pre (H1 := []) (R1 := []) hS (fun W h => h))).take 3) rfl) ?_
     refine g_e rfl (e_alloc 100050 Try.zeroValue36) (fun g116 _ => ?_)
     refine g_storeL (tag := 100050) rfl rfl rfl rfl Try.sizeOf36 rfl rfl <| g_nil <| d_then <| c_seq <| c_seq <| c_region <| g_v rfl (r_field (n := 0) Try.underlying36 rfl Try.sizeOf3 rfl rfl) <| g_v rfl (r_load (tag := 100050) rfl rfl rfl Try.isAgg3) <| g_v rfl r_move <| g_v rfl (r_lss rfl rfl) ?_
     refine g_v rfl r_move ?_
     refine g_if rfl rfl rfl rfl rfl (fun h117 => ?_) (fun h117 => ?_)
     ·
      replace hm := ite_f hm (of_decide_eq_false h117)
      refine g_v rfl (r_field (n := 0) Try.underlying36 rfl Try.sizeOf3 rfl rfl) <| g_do rfl rfl rfl rfl rfl h117 <| g_v rfl (r_load (tag := 100050) rfl rfl rfl Try.isAgg3) <| g_do rfl rfl rfl rfl rfl h117 ?_
      replace hm := bnd hm
      obtain ⟨x118, hx119, hm⟩ := hm
      refine g_cn ⟨w0, M, _, _, φ⟩ (fun _ h => h) Try.call53 rfl rfl (c_plog_within x112.fTerm _ hx119) (fun _ _ => ?_)
      refine g_do rfl rfl rfl rfl rfl h117 <| g_v rfl (r_not rfl) <| g_v rfl (r_pick0 rfl h117) <| g_v rfl r_move ?_
      refine g_if rfl rfl rfl rfl rfl (fun h120 => ?_) (fun h120 => ?_)
      ·
       have h120' : x118 = true := by revert h120; cases x118 <;> simp
       replace hm := ite_t hm h120'
       refine g_v rfl (r_field (n := 1) Try.underlying36 rfl Try.sizeOf3 rfl rfl) <| g_do rfl rfl rfl rfl rfl h120 <| g_v rfl (r_load (tag := 100050) rfl rfl rfl Try.isAgg3) <| g_do rfl rfl rfl rfl rfl h120 <| g_v rfl (r_lss rfl rfl) <| g_v rfl (r_pick0 rfl h120) <| g_v rfl r_move ?_
       refine g_if rfl rfl rfl rfl rfl (fun h121 => ?_) (fun h121 => ?_)
       ·
        replace hm := ite_f hm (of_decide_eq_false h121)
        refine g_v rfl (r_field (n := 1) Try.underlying36 rfl Try.sizeOf3 rfl rfl) <| g_do rfl rfl rfl rfl rfl h121 <| g_v rfl (r_load (tag := 100050) rfl rfl rfl Try.isAgg3) <| g_do rfl rfl rfl rfl rfl h121 <| g_v rfl (r_gtr rfl rfl) <| g_v rfl (r_pick0 rfl h121) <| g_v rfl r_move ?_
        refine g_if rfl rfl rfl rfl rfl (fun h122 => ?_) (fun h122 => ?_)
        ·
         replace hm := ite_f hm (of_decide_eq_false h122)
         refine g_v rfl (r_field (n := 2) Try.underlying36 rfl Try.sizeOf9 rfl rfl) <| g_do rfl rfl rfl rfl rfl h122 <| g_v rfl (r_load (tag := 100050) rfl rfl rfl Try.isAgg9) <| g_do rfl rfl rfl rfl rfl h122 <| g_v rfl (r_len Try.underlying9 rfl) <| g_do rfl rfl rfl rfl rfl h122 <| g_v rfl (r_gtr rfl rfl) <| g_v rfl (r_pick0 rfl h122) <| g_nil <| d_then ?_
         refine c_flat [(5, .pointer (some ⟨g116, 0, none⟩)), (27, .slice Ap0_0 p0.fEntries.length cp0_0), (28, .int .i64 (p0.fEntries.length : Int)), (29, .int .i64 i85), (58, .bool (decide (8000 < (x112.fData.size : Int))))] ⟨rfl, rfl, rfl, rfl, rfl, trivial⟩ (fun u => ?_)
         refine c_sta ⟨w0, M, (100050, g116, .cells #[.int .i64 x112.fTerm, .int .i64 x112.fKind, .string x112.fData] 36 (0, 0)) :: H, R, φ⟩ (fun _ h => h) ?_
         refine c_cond rfl (fun h123 => ?_) (fun h123 => ?_)
         ·
          replace hm := ite_t hm (of_decide_eq_true h123)
          refine c_seq <| c_region <| g_v rfl r_assign <| g_nil <| d_then <| c_ret <| d_ret_then <| d_ret_block <| d_ret_then <| d_ret_then ?_
          refine d_ret_block <| d_ret_then <| d_ret_then ?_
          replace hm := nx_out (C := (fun e : Unit ⊕ Int => Sum.elim (fun e => m_plog_Check_j1) (fun x => some x) e = some r)) hm hnx2 hr2
          replace hm : some 1 = some r := hm
          cases hm
          exact d_retC () Try.results32 (res_tmp (res_nil rfl)) trivial (fun W h => ok_pre (H1 := [_]) (R1 := []) h (fun W hφ => hφ)) (.inr rfl)
         replace hm := ite_f hm (of_decide_eq_false h123)
         refine c_skip <| d_then <| c_seq <| c_region <| g_v rfl (r_field (n := 2) Try.underlying36 rfl Try.sizeOf9 rfl rfl) <| g_v rfl (r_load (tag := 100050) rfl rfl rfl Try.isAgg9) ?_
         replace hm := bnd hm
         obtain ⟨⟨x124, x125⟩, hx126, hm⟩ := hm
         refine g_cn ⟨w0, M, _, _, φ⟩ (fun _ h => h) Try.call54 rfl rfl (c_plog_List x112.fData _ hx126) (fun ⟨A127, c128⟩ hc128 => ?_)
         refine g_sta _ (fun W h => (ok_frontR (t := 2000) (t' := 100620) h rfl)) <| g_v rfl r_move <| g_v rfl (r_extract rfl rfl) <| g_v rfl (r_extract rfl rfl) <| g_v rfl r_assign <| g_v rfl r_assign <| g_nil <| d_then <| c_seq <| c_seq ?_
         refine c_region <| g_v rfl (r_field (n := 1) Try.underlying36 rfl Try.sizeOf3 rfl rfl) <| g_v rfl (r_load (tag := 100050) rfl rfl rfl Try.isAgg3) <| g_v rfl (r_eql rfl rfl) <| g_v rfl r_move <| g_sta ⟨w0, M, (100050, g116, .cells #[.int .i64 x112.fTerm, .int .i64 x112.fKind, .string x112.fData] 36 (0, 0)) :: H, (100620, ⟨.slice A127 x124.length c128, 3, 1, x124.length, x124.flatMap (fun x : Int => [Value.int .i64 x])⟩) :: R, φ⟩ (fun _ h => h) ?_
         refine g_if rfl rfl rfl rfl rfl (fun h131 => ?_) (fun h131 => ?_)
         ·
          replace hm := ite_t hm (of_decide_eq_true h131)
          refine g_v rfl r_move <| g_do rfl rfl rfl rfl rfl h131 <| g_v rfl (r_not rfl) <| g_v rfl (r_pick1 rfl h131) <| g_nil <| d_then ?_
          refine c_flat [(5, .pointer (some ⟨g116, 0, none⟩)), (27, .slice Ap0_0 p0.fEntries.length cp0_0), (28, .int .i64 (p0.fEntries.length : Int)), (29, .int .i64 i85), (71, .bool (!x125))] ⟨rfl, rfl, rfl, rfl, rfl, trivial⟩ (fun u => ?_)
          refine c_cond rfl (fun h132 => ?_) (fun h132 => ?_)
          ·
           have h132' : x125 = false := by revert h132; cases x125 <;> simp
           replace hm := ite_f hm (bool_nt h132')
           refine c_seq <| c_region <| g_v rfl r_assign <| g_nil <| d_then <| c_ret <| d_ret_then <| d_ret_block <| d_ret_then <| d_ret_then ?_
           refine d_ret_block <| d_ret_then <| d_ret_then ?_
           replace hm := nx_out (C := (fun e : Unit ⊕ Int => Sum.elim (fun e => m_plog_Check_j1) (fun x => some x) e = some r)) hm hnx2 hr2
           replace hm : some 1 = some r := hm
           cases hm
           exact d_retC () Try.results32 (res_tmp (res_nil rfl)) trivial (fun W h => ok_pre (H1 := [_]) (R1 := [_]) h (fun W hφ => hφ)) (.inr rfl)
          have h132' : x125 = true := by revert h132; cases x125 <;> simp
          replace hm := ite_t hm h132'
          refine c_skip <| d_then <| c_region <| g_v rfl (r_field (n := 0) Try.underlying36 rfl Try.sizeOf3 rfl rfl) <| g_v rfl (r_load (tag := 100050) rfl rfl rfl Try.isAgg3) <| g_v rfl r_assign <| g_nil <| d_normal_block <| d_then <| c_region ?_
          refine g_v rfl (r_add rfl rfl rfl) <| g_v rfl r_move <| g_nil ?_
          obtain ⟨n133, hn133, hlp⟩ := nx_inl hm hnx2
          exact d_round (n133, x112.fTerm, w64 (i85 + 1)) hlp hn133 ⟨rfl, rfl, rfl, rfl, trivial⟩ (fun W h => ((h.dropR (t := 100620) rfl).dropH (t := 100050) rfl).phi (fun W hφ => hφ))
         replace hm := ite_f hm (of_decide_eq_false h131)
         refine g_no rfl rfl rfl rfl rfl h131 <| g_v rfl (r_pick0 rfl h131) <| g_nil <| d_then ?_
         refine c_flat [(5, .pointer (some ⟨g116, 0, none⟩)), (27, .slice Ap0_0 p0.fEntries.length cp0_0), (28, .int .i64 (p0.fEntries.length : Int)), (29, .int .i64 i85), (71, .bool false)] ⟨rfl, rfl, rfl, rfl, rfl, trivial⟩ (fun u => ?_)
         refine c_cond0 rfl rfl <| c_skip <| d_then <| c_region <| g_v rfl (r_field (n := 0) Try.underlying36 rfl Try.sizeOf3 rfl rfl) <| g_v rfl (r_load (tag := 100050) rfl rfl rfl Try.isAgg3) <| g_v rfl r_assign <| g_nil <| d_normal_block <| d_then ?_
         refine c_region <| g_v rfl (r_add rfl rfl rfl) <| g_v rfl r_move <| g_nil ?_
         obtain ⟨n134, hn134, hlp⟩ := nx_inl hm hnx2
         exact d_round (n134, x112.fTerm, w64 (i85 + 1)) hlp hn134 ⟨rfl, rfl, rfl, rfl, trivial⟩ (fun W h => ((h.dropR (t := 100620) rfl).dropH (t := 100050) rfl).phi (fun W hφ => hφ))
        replace hm := ite_t hm (of_decide_eq_true h122)
        iterate 3 refine g_no rfl rfl rfl rfl rfl h122 ?_
        refine g_v rfl (r_pick1 rfl h122) <| g_nil <| d_then ?_
        refine c_flat [(5, .pointer (some ⟨g116, 0, none⟩)), (27, .slice Ap0_0 p0.fEntries.length cp0_0), (28, .int .i64 (p0.fEntries.length : Int)), (29, .int .i64 i85), (58, .bool true)] ⟨rfl, rfl, rfl, rfl, rfl, trivial⟩ (fun u => ?_)
        refine c_sta ⟨w0, M, (100050, g116, .cells #[.int .i64 x112.fTerm, .int .i64 x112.fKind, .string x112.fData] 36 (0, 0)) :: H, R, φ⟩ (fun _ h => h) <| c_cond1 rfl rfl <| c_seq <| c_region <| g_v rfl r_assign <| g_nil <| d_then <| c_ret <| d_ret_then <| d_ret_block ?_
        refine d_ret_then <| d_ret_then <| d_ret_block <| d_ret_then <| d_ret_then ?_
        replace hm := nx_out (C := (fun e : Unit ⊕ Int => Sum.elim (fun e => m_plog_Check_j1) (fun x => some x) e = some r)) hm hnx2 hr2
        replace hm : some 1 = some r := hm
        cases hm
        exact d_retC () Try.results32 (res_tmp (res_nil rfl)) trivial (fun W h => ok_pre (H1 := [_]) (R1 := []) h (fun W hφ => hφ)) (.inr rfl)
       replace hm := ite_t hm (of_decide_eq_true h121)
       refine g_no rfl rfl rfl rfl rfl h121 <| g_no rfl rfl rfl rfl rfl h121 <| g_v rfl (r_pick1 rfl h121) <| g_v rfl r_move ?_
       iterate 4 refine g_no rfl rfl rfl rfl rfl rfl ?_
       refine g_v rfl (r_pick1 rfl rfl) <| g_nil <| d_then ?_
       refine c_flat [(5, .pointer (some ⟨g116, 0, none⟩)), (27, .slice Ap0_0 p0.fEntries.length cp0_0), (28, .int .i64 (p0.fEntries.length : Int)), (29, .int .i64 i85), (58, .bool true)] ⟨rfl, rfl, rfl, rfl, rfl, trivial⟩ (fun u => ?_)
       refine c_sta ⟨w0, M, (100050, g116, .cells #[.int .i64 x112.fTerm, .int .i64 x112.fKind, .string x112.fData] 36 (0, 0)) :: H, R, φ⟩ (fun _ h => h) <| c_cond1 rfl rfl <| c_seq <| c_region <| g_v rfl r_assign <| g_nil <| d_then <| c_ret <| d_ret_then <| d_ret_block ?_
       refine d_ret_then <| d_ret_then <| d_ret_block <| d_ret_then <| d_ret_then ?_
       replace hm := nx_out (C := (fun e : Unit ⊕ Int => Sum.elim (fun e => m_plog_Check_j1) (fun x => some x) e = some r)) hm hnx2 hr2
       replace hm : some 1 = some r := hm
       cases hm
       exact d_retC () Try.results32 (res_tmp (res_nil rfl)) trivial (fun W h => ok_pre (H1 := [_]) (R1 := []) h (fun W hφ => hφ)) (.inr rfl)
      have h120' : x118 = false := by revert h120; cases x118 <;> simp
      replace hm := ite_f hm (bool_nt h120')
      refine g_no rfl rfl rfl rfl rfl h120 <| g_no rfl rfl rfl rfl rfl h120 <| g_v rfl (r_pick1 rfl h120) <| g_v rfl r_move ?_
      iterate 3 refine g_no rfl rfl rfl rfl rfl rfl ?_
      refine g_v rfl (r_pick1 rfl rfl) <| g_v rfl r_move ?_
      iterate 4 refine g_no rfl rfl rfl rfl rfl rfl ?_
      refine g_v rfl (r_pick1 rfl rfl) <| g_nil <| d_then ?_
      refine c_flat [(5, .pointer (some ⟨g116, 0, none⟩)), (27, .slice Ap0_0 p0.fEntries.length cp0_0), (28, .int .i64 (p0.fEntries.length : Int)), (29, .int .i64 i85), (58, .bool true)] ⟨rfl, rfl, rfl, rfl, rfl, trivial⟩ (fun u => ?_)
      refine c_sta ⟨w0, M, (100050, g116, .cells #[.int .i64 x112.fTerm, .int .i64 x112.fKind, .string x112.fData] 36 (0, 0)) :: H, R, φ⟩ (fun _ h => h) <| c_cond1 rfl rfl <| c_seq <| c_region <| g_v rfl r_assign <| g_nil <| d_then <| c_ret <| d_ret_then <| d_ret_block ?_
      refine d_ret_then <| d_ret_then <| d_ret_block <| d_ret_then <| d_ret_then ?_
      replace hm := nx_out (C := (fun e : Unit ⊕ Int => Sum.elim (fun e => m_plog_Check_j1) (fun x => some x) e = some r)) hm hnx2 hr2
      replace hm : some 1 = some r := hm
      cases hm
      exact d_retC () Try.results32 (res_tmp (res_nil rfl)) trivial (fun W h => ok_pre (H1 := [_]) (R1 := []) h (fun W hφ => hφ)) (.inr rfl)
     replace hm := ite_t hm (of_decide_eq_true h117)
     iterate 3 refine g_no rfl rfl rfl rfl rfl h117 ?_
     refine g_v rfl (r_pick1 rfl h117) <| g_v rfl r_move ?_
     iterate 3 refine g_no rfl rfl rfl rfl rfl rfl ?_
     refine g_v rfl (r_pick1 rfl rfl) <| g_v rfl r_move ?_
     iterate 3 refine g_no rfl rfl rfl rfl rfl rfl ?_
     refine g_v rfl (r_pick1 rfl rfl) <| g_v rfl r_move ?_
     iterate 4 refine g_no rfl rfl rfl rfl rfl rfl ?_
     refine g_v rfl (r_pick1 rfl rfl) <| g_nil <| d_then ?_
     refine c_flat [(5, .pointer (some ⟨g116, 0, none⟩)), (27, .slice Ap0_0 p0.fEntries.length cp0_0), (28, .int .i64 (p0.fEntries.length : Int)), (29, .int .i64 i85), (58, .bool true)] ⟨rfl, rfl, rfl, rfl, rfl, trivial⟩ (fun u => ?_)
     refine c_sta ⟨w0, M, (100050, g116, .cells #[.int .i64 x112.fTerm, .int .i64 x112.fKind, .string x112.fData] 36 (0, 0)) :: H, R, φ⟩ (fun _ h => h) <| c_cond1 rfl rfl <| c_seq <| c_region <| g_v rfl r_assign <| g_nil <| d_then <| c_ret <| d_ret_then <| d_ret_block ?_
     refine d_ret_then <| d_ret_then <| d_ret_block <| d_ret_then <| d_ret_then ?_
     replace hm := nx_out (C := (fun e : Unit ⊕ Int => Sum.elim (fun e => m_plog_Check_j1) (fun x => some x) e = some r)) hm hnx2 hr2
     replace hm : some 1 = some r := hm
     cases hm
     exact d_retC () Try.results32 (res_tmp (res_nil rfl)) trivial (fun W h => ok_pre (H1 := [_]) (R1 := []) h (fun W hφ => hφ)) (.inr rfl)
    replace hm := ite_f hm (of_decide_eq_false h111)
    refine c_exit <| d_exit_then <| d_exit_then <| d_exit_block ?_
    replace hm := nx_out (C := (fun e : Unit ⊕ Int => Sum.elim (fun e => m_plog_Check_j1) (fun x => some x) e = some r)) hm hnx2 hr2
    exact d_round () hm Nat.zero_lt_one trivial (fun W h => h.phi (fun W hφ => hφ))
   unfold m_plog_Check_j1 at hm
   refine d_flat [] trivial (fun u => ?_)
   refine d_sta ⟨w0, M, H, R, φ⟩ (fun _ h => h) <| d_then <| c_seq <| c_region <| g_v rfl r_assign <| g_nil <| d_then <| c_ret ?_
   cases hm
   exact d_retC () Try.results32 (res_tmp (res_nil rfl)) trivial (fun W h => ok_pre (H1 := []) (R1 := []) h (fun W hφ => hφ)) (.inr rfl)
  have h7' : x5 = false := by revert h7; cases x5 <;> simp
  replace hm := ite_f hm (bool_nt h7')
  iterate 3 refine g_no rfl rfl rfl rfl rfl h7 ?_
  refine g_v rfl (r_pick1 rfl h7) <| g_nil <| d_then ?_
  refine c_flat [(1, .pointer (some ⟨g1, 0, none⟩)), (23, .bool true)] ⟨rfl, rfl, trivial⟩ (fun u => ?_)
  refine c_cond1 rfl rfl <| c_seq <| c_region <| g_v rfl r_assign <| g_nil <| d_then <| c_ret <| d_ret_then ?_
  cases hm
  exact d_retC () Try.results32 (res_tmp (res_nil rfl)) trivial (fun W h => ok_pre (H1 := [_]) (R1 := []) h (fun W hφ => hφ)) (.inr rfl)
 have h4' : x2 = false := by revert h4; cases x2 <;> simp
 replace hm := ite_f hm (bool_nt h4')
 iterate 3 refine g_no rfl rfl rfl rfl rfl h4 ?_
 refine g_v rfl (r_pick1 rfl h4) <| g_v rfl r_move ?_
 iterate 4 refine g_no rfl rfl rfl rfl rfl rfl ?_
 refine g_v rfl (r_pick1 rfl rfl) <| g_nil <| d_then ?_
 refine c_flat [(1, .pointer (some ⟨g1, 0, none⟩)), (23, .bool true)] ⟨rfl, rfl, trivial⟩ (fun u => ?_)
 refine c_cond1 rfl rfl <| c_seq <| c_region <| g_v rfl r_assign <| g_nil <| d_then <| c_ret <| d_ret_then ?_
 cases hm
 exact d_retC () Try.results32 (res_tmp (res_nil rfl)) trivial (fun W h => ok_pre (H1 := [_]) (R1 := []) h (fun W hφ => hφ)) (.inr rfl)
noncomputable def m_raft_Check_j2 (p0 : GNote) : Option Int :=
  if (p0.fVoters.length : Int) = 0 then
    some 1
  else
    some 0
noncomputable def m_raft_Check_s3 (p0 : GNote) (i84 : Int) : Option (Int ⊕ (Unit ⊕ Int)) :=
  if i84 < (p0.fVoters.length : Int) then
    (at_ p0.fVoters i84).bind fun x102 =>
    (m_raft_node x102).bind fun x106 =>
    if x106 = true then
      if 0 < i84 then
        (at_ p0.fVoters (w64 (i84 - 1))).bind fun x110 =>
        if x102 ≤ x110 then
          some (.inr (.inr 1))
        else
          some (.inl (w64 (i84 + 1)))
      else
        some (.inl (w64 (i84 + 1)))
    else
      some (.inr (.inr 1))
  else
    some (.inr (.inl ()))
noncomputable def m_raft_Check_j1 (p0 : GNote) : Option Int :=
  (loop (fun s => m_raft_Check_s3 p0 s) 0).bind fun e => Sum.elim (fun e => m_raft_Check_j2 p0) (fun x => some x) e
noncomputable def m_raft_Check (p0 : GNote) : Option Int :=
  if p0.fKind < 1 then
    some 1
  else
    if 5 < p0.fKind then
      some 1
    else
      (m_raft_node p0.fFrom).bind fun x4 =>
      if x4 = true then
        (m_raft_node p0.fTo).bind fun x7 =>
        if x7 = true then
          if p0.fFrom = p0.fTo then
            some 1
          else
            if p0.fTerm < 1 then
              some 1
            else
              if 1099511627776 < p0.fTerm then
                some 1
              else
                if p0.fIndex < 0 then
                  some 1
                else
                  if 1099511627776 < p0.fIndex then
                    some 1
                  else
                    if p0.fCommit < 0 then
                      some 1
                    else
                      if 1099511627776 < p0.fCommit then
                        some 1
                      else
                        if p0.fLogTerm < 0 then
                          some 1
                        else
                          if p0.fTerm < p0.fLogTerm then
                            some 1
                          else
                            if 16 < (p0.fEntries.length : Int) then
                              some 1
                            else
                              if w64 (1099511627776 - (p0.fEntries.length : Int)) < p0.fIndex then
                                some 1
                              else
                                if 50000 < (p0.fSnap.size : Int) then
                                  some 1
                                else
                                  (m_plog_Check (⟨p0.fIndex, p0.fLogTerm, p0.fEntries⟩ : GLog)).bind fun x118 =>
                                  if x118 ≠ 0 then
                                    some 1
                                  else
                                    if 0 < (p0.fEntries.length : Int) then
                                      (at_ p0.fEntries (w64 ((p0.fEntries.length : Int) - 1))).bind fun x134 =>
                                      if p0.fTerm < x134.fTerm then
                                        some 1
                                      else
                                        if (p0.fVoters.length : Int) = 0 then
                                          if p0.fKind ≠ 4 then
                                            some 0
                                          else
                                            m_raft_Check_j1 p0
                                        else
                                          m_raft_Check_j1 p0
                                    else
                                      if (p0.fVoters.length : Int) = 0 then
                                        if p0.fKind ≠ 4 then
                                          some 0
                                        else
                                          m_raft_Check_j1 p0
                                      else
                                        m_raft_Check_j1 p0
        else
          some 1
      else
        some 1
theorem c_raft_Check {w0 : World} {M : Nat → Prop} {H : List (Nat × Nat × Obj)} {R : List (Nat × Row)} {φ : World → Prop} (p0 : GNote) (Ap0_0 : Option Addr) (cp0_0 : Nat) (hcp0_0 : p0.fEntries.length ≤ cp0_0) (fp0_0 : ∀ W, (Sta.mk w0 M H R φ).ok W → Cl W Ap0_0 (p0.fEntries.flatMap GEntry.enc)) (Ap0_1 : Option Addr) (cp0_1 : Nat) (hcp0_1 : p0.fVoters.length ≤ cp0_1) (fp0_1 : ∀ W, (Sta.mk w0 M H R φ).ok W → Cl W Ap0_1 (p0.fVoters.flatMap (fun x : Int => [Value.int .i64 x]))) (r : Int) (hm : m_raft_Check p0 = some r) :
    Cn Try.prog 11 #[.agg #[.int .i64 p0.fKind, .int .i64 p0.fFrom, .int .i64 p0.fTo, .int .i64 p0.fTerm, .int .i64 p0.fIndex, .int .i64 p0.fLogTerm, .int .i64 p0.fCommit, .bool p0.fGood, .slice Ap0_0 p0.fEntries.length cp0_0, .slice Ap0_1 p0.fVoters.length cp0_1, .string p0.fSnap]] ⟨w0, M, H, R, φ⟩ (fun x : Unit => .int .i64 r) (fun x => True) (fun x => ⟨w0, M, H, R, φ⟩) := by
 unfold m_raft_Check at hm
 refine cn_intro (fn := Try.f11) (N := 163) Try.func11 rfl Try.ntmps11 rfl <| c_seq <| c_region ?_
 refine g_e rfl (e_box 100010 rfl) (fun g1 _ => ?_)
 refine g_v rfl r_assign <| g_nil <| d_then <| c_seq <| c_block <| c_seq <| c_region <| g_v rfl (r_field (n := 0) Try.underlying25 rfl Try.sizeOf3 rfl rfl) <| g_v rfl (r_load (tag := 100010) rfl rfl rfl Try.isAgg3) <| g_v rfl (r_lss rfl rfl) ?_
 refine g_v rfl r_move <| g_sta ⟨w0, M, (100010, g1, .cells #[.int .i64 p0.fKind, .int .i64 p0.fFrom, .int .i64 p0.fTo, .int .i64 p0.fTerm, .int .i64 p0.fIndex, .int .i64 p0.fLogTerm, .int .i64 p0.fCommit, .bool p0.fGood, .slice Ap0_0 p0.fEntries.length cp0_0, .slice Ap0_1 p0.fVoters.length cp0_1, .string p0.fSnap] 25 (0, 0)) :: H, R, φ⟩ (fun _ h => h) ?_
 refine g_if rfl rfl rfl rfl rfl (fun h2 => ?_) (fun h2 => ?_)
 ·
  replace hm := ite_f hm (of_decide_eq_false h2)
  refine g_v rfl (r_field (n := 0) Try.underlying25 rfl Try.sizeOf3 rfl rfl) <| g_do rfl rfl rfl rfl rfl h2 <| g_v rfl (r_load (tag := 100010) rfl rfl rfl Try.isAgg3) <| g_do rfl rfl rfl rfl rfl h2 <| g_v rfl (r_gtr rfl rfl) <| g_v rfl (r_pick0 rfl h2) <| g_v rfl r_move ?_
  refine g_if rfl rfl rfl rfl rfl (fun h3 => ?_) (fun h3 => ?_)
  ·
   replace hm := ite_f hm (of_decide_eq_false h3)
   refine g_v rfl (r_field (n := 1) Try.underlying25 rfl Try.sizeOf3 rfl rfl) <| g_do rfl rfl rfl rfl rfl h3 <| g_v rfl (r_load (tag := 100010) rfl rfl rfl Try.isAgg3) <| g_do rfl rfl rfl rfl rfl h3 ?_
   replace hm := bnd hm
   obtain ⟨x4, hx5, hm⟩ := hm
   refine g_cn ⟨w0, M, _, _, φ⟩ (fun _ h => h) Try.call31 rfl rfl (c_raft_node p0.fFrom _ hx5) (fun _ _ => ?_)
   refine g_do rfl rfl rfl rfl rfl h3 <| g_v rfl (r_not rfl) <| g_v rfl (r_pick0 rfl h3) <| g_v rfl r_move ?_
   refine g_if rfl rfl rfl rfl rfl (fun h6 => ?_) (fun h6 => ?_)
   ·
    have h6' : x4 = true := by revert h6; cases x4 <;> simp
    replace hm := ite_t hm h6'
    refine g_v rfl (r_field (n := 2) Try.underlying25 rfl Try.sizeOf3 rfl rfl) <| g_do rfl rfl rfl rfl rfl h6 <| g_v rfl (r_load (tag := 100010) rfl rfl rfl Try.isAgg3) <| g_do rfl rfl rfl rfl rfl h6 ?_
    replace hm := bnd hm
    obtain ⟨x7, hx8, hm⟩ := hm
    refine g_cn ⟨w0, M, _, _, φ⟩ (fun _ h => h) Try.call31 rfl rfl (c_raft_node p0.fTo _ hx8) (fun _ _ => ?_)
    refine g_do rfl rfl rfl rfl rfl h6 <| g_v rfl (r_not rfl) <| g_v rfl (r_pick0 rfl h6) <| g_v rfl r_move ?_
    refine g_if rfl rfl rfl rfl rfl (fun h9 => ?_) (fun h9 => ?_)
    ·
     have h9' : x7 = true := by revert h9; cases x7 <;> simp
     replace hm := ite_t hm h9'
     refine g_v rfl (r_field (n := 1) Try.underlying25 rfl Try.sizeOf3 rfl rfl) <| g_do rfl rfl rfl rfl rfl h9 <| g_v rfl (r_load (tag := 100010) rfl rfl rfl Try.isAgg3) <| g_do rfl rfl rfl rfl rfl h9 <| g_v rfl (r_field (n := 2) Try.underlying25 rfl Try.sizeOf3 rfl rfl) <| g_do rfl rfl rfl rfl rfl h9 <| g_v rfl (r_load (tag := 100010) rfl rfl rfl Try.isAgg3) <| g_do rfl rfl rfl rfl rfl h9 <| g_v rfl (r_eql rfl rfl) <| g_v rfl (r_pick0 rfl h9) ?_
     refine g_v rfl r_assign <| g_nil <| d_then ?_
     refine c_flat [(1, .pointer (some ⟨g1, 0, none⟩)), (5, .bool (decide (p0.fFrom = p0.fTo)))] ⟨rfl, rfl, trivial⟩ (fun u => ?_)
     refine c_cond rfl (fun h10 => ?_) (fun h10 => ?_)
     ·
      replace hm := ite_t hm (of_decide_eq_true h10)
      refine c_seq <| c_region <| g_v rfl r_assign <| g_nil <| d_then <| c_ret <| d_ret_block <| d_ret_then ?_
      cases hm
      exact d_retC () Try.results11 (res_tmp (res_nil rfl)) trivial (fun W h => ok_pre (H1 := [_]) (R1 := []) h (fun W hφ => hφ)) (.inr rfl)
     replace hm := ite_f hm (of_decide_eq_false h10)
     refine c_seq <| c_region <| g_v rfl (r_field (n := 3) Try.underlying25 rfl Try.sizeOf3 rfl rfl) <| g_v rfl (r_load (tag := 100010) rfl rfl rfl Try.isAgg3) <| g_v rfl (r_lss rfl rfl) <| g_v rfl r_move ?_
     refine g_if rfl rfl rfl rfl rfl (fun h11 => ?_) (fun h11 => ?_)
     ·
      replace hm := ite_f hm (of_decide_eq_false h11)
      refine g_v rfl (r_field (n := 3) Try.underlying25 rfl Try.sizeOf3 rfl rfl) <| g_do rfl rfl rfl rfl rfl h11 <| g_v rfl (r_load (tag := 100010) rfl rfl rfl Try.isAgg3) <| g_do rfl rfl rfl rfl rfl h11 <| g_v rfl (r_gtr rfl rfl) <| g_v rfl (r_pick0 rfl h11) <| g_v rfl r_move ?_
      refine g_if rfl rfl rfl rfl rfl (fun h12 => ?_) (fun h12 => ?_)
      ·
       replace hm := ite_f hm (of_decide_eq_false h12)
       refine g_v rfl (r_field (n := 4) Try.underlying25 rfl Try.sizeOf3 rfl rfl) <| g_do rfl rfl rfl rfl rfl h12 <| g_v rfl (r_load (tag := 100010) rfl rfl rfl Try.isAgg3) <| g_do rfl rfl rfl rfl rfl h12 <| g_v rfl (r_lss rfl rfl) <| g_v rfl (r_pick0 rfl h12) <| g_v rfl r_move ?_
       refine g_if rfl rfl rfl rfl rfl (fun h13 => ?_) (fun h13 => ?_)
       ·
        replace hm := ite_f hm (of_decide_eq_false h13)
        refine g_v rfl (r_field (n := 4) Try.underlying25 rfl Try.sizeOf3 rfl rfl) <| g_do rfl rfl rfl rfl rfl h13 <| g_v rfl (r_load (tag := 100010) rfl rfl rfl Try.isAgg3) <| g_do rfl rfl rfl rfl rfl h13 <| g_v rfl (r_gtr rfl rfl) <| g_v rfl (r_pick0 rfl h13) <| g_v rfl r_move ?_
        refine g_if rfl rfl rfl rfl rfl (fun h14 => ?_) (fun h14 => ?_)
        ·
         replace hm := ite_f hm (of_decide_eq_false h14)
         refine g_v rfl (r_field (n := 6) Try.underlying25 rfl Try.sizeOf3 rfl rfl) <| g_do rfl rfl rfl rfl rfl h14 <| g_v rfl (r_load (tag := 100010) rfl rfl rfl Try.isAgg3) <| g_do rfl rfl rfl rfl rfl h14 <| g_v rfl (r_lss rfl rfl) <| g_v rfl (r_pick0 rfl h14) <| g_v rfl r_move ?_
         refine g_if rfl rfl rfl rfl rfl (fun h15 => ?_) (fun h15 => ?_)
         ·
          replace hm := ite_f hm (of_decide_eq_false h15)
          refine g_v rfl (r_field (n := 6) Try.underlying25 rfl Try.sizeOf3 rfl rfl) <| g_do rfl rfl rfl rfl rfl h15 <| g_v rfl (r_load (tag := 100010) rfl rfl rfl Try.isAgg3) <| g_do rfl rfl rfl rfl rfl h15 <| g_v rfl (r_gtr rfl rfl) <| g_v rfl (r_pick0 rfl h15) <| g_v rfl r_assign <| g_nil <| d_then ?_
          refine c_flat [(1, .pointer (some ⟨g1, 0, none⟩)), (33, .bool (decide (1099511627776 < p0.fCommit)))] ⟨rfl, rfl, trivial⟩ (fun u => ?_)
          refine c_cond rfl (fun h16 => ?_) (fun h16 => ?_)
          ·
           replace hm := ite_t hm (of_decide_eq_true h16)
           refine c_seq <| c_region <| g_v rfl r_assign <| g_nil <| d_then <| c_ret <| d_ret_block <| d_ret_then ?_
           cases hm
           exact d_retC () Try.results11 (res_tmp (res_nil rfl)) trivial (fun W h => ok_pre (H1 := [_]) (R1 := []) h (fun W hφ => hφ)) (.inr rfl)
          replace hm := ite_f hm (of_decide_eq_false h16)
          refine c_seq <| c_region <| g_v rfl (r_field (n := 5) Try.underlying25 rfl Try.sizeOf3 rfl rfl) <| g_v rfl (r_load (tag := 100010) rfl rfl rfl Try.isAgg3) <| g_v rfl (r_lss rfl rfl) <| g_v rfl r_move ?_
          refine g_if rfl rfl rfl rfl rfl (fun h17 => ?_) (fun h17 => ?_)
          ·
           replace hm := ite_f hm (of_decide_eq_false h17)
           refine g_v rfl (r_field (n := 5) Try.underlying25 rfl Try.sizeOf3 rfl rfl) <| g_do rfl rfl rfl rfl rfl h17 <| g_v rfl (r_load (tag := 100010) rfl rfl rfl Try.isAgg3) <| g_do rfl rfl rfl rfl rfl h17 <| g_v rfl (r_field (n := 3) Try.underlying25 rfl Try.sizeOf3 rfl rfl) <| g_do rfl rfl rfl rfl rfl h17 <| g_v rfl (r_load (tag := 100010) rfl rfl rfl Try.isAgg3) <| g_do rfl rfl rfl rfl rfl h17 <| g_v rfl (r_gtr rfl rfl) <| g_v rfl (r_pick0 rfl h17) ?_
           refine g_v rfl r_move ?_
           refine g_if rfl rfl rfl rfl rfl (fun h18 => ?_) (fun h18 => ?_)
           ·
            replace hm := ite_f hm (of_decide_eq_false h18)
            refine g_v rfl (r_field (n := 8) Try.underlying25 rfl Try.sizeOf22 rfl rfl) <| g_do rfl rfl rfl rfl rfl h18 <| g_v rfl (r_load (tag := 100010) rfl rfl rfl Try.isAgg22) <| g_do rfl rfl rfl rfl rfl h18 <| g_v rfl (r_lenL Try.underlying22 rfl) <| g_do rfl rfl rfl rfl rfl h18 <| g_v rfl (r_gtr rfl rfl) <| g_v rfl (r_pick0 rfl h18) <| g_v rfl r_move ?_
            refine g_if rfl rfl rfl rfl rfl (fun h19 => ?_) (fun h19 => ?_)
            ·
             replace hm := ite_f hm (of_decide_eq_false h19)
             refine g_v rfl (r_field (n := 4) Try.underlying25 rfl Try.sizeOf3 rfl rfl) <| g_do rfl rfl rfl rfl rfl h19 <| g_v rfl (r_load (tag := 100010) rfl rfl rfl Try.isAgg3) <| g_do rfl rfl rfl rfl rfl h19 <| g_v rfl (r_field (n := 8) Try.underlying25 rfl Try.sizeOf22 rfl rfl) <| g_do rfl rfl rfl rfl rfl h19 <| g_v rfl (r_load (tag := 100010) rfl rfl rfl Try.isAgg22) <| g_do rfl rfl rfl rfl rfl h19 <| g_v rfl (r_lenL Try.underlying22 rfl) <| g_do rfl rfl rfl rfl rfl h19 ?_
             refine g_v rfl (r_sub rfl rfl rfl) <| g_do rfl rfl rfl rfl rfl h19 <| g_v rfl (r_gtr rfl rfl) <| g_v rfl (r_pick0 rfl h19) <| g_v rfl r_move ?_
             refine g_if rfl rfl rfl rfl rfl (fun h20 => ?_) (fun h20 => ?_)
             ·
              replace hm := ite_f hm (of_decide_eq_false h20)
              refine g_v rfl (r_field (n := 10) Try.underlying25 rfl Try.sizeOf9 rfl rfl) <| g_do rfl rfl rfl rfl rfl h20 <| g_v rfl (r_load (tag := 100010) rfl rfl rfl Try.isAgg9) <| g_do rfl rfl rfl rfl rfl h20 <| g_v rfl (r_len Try.underlying9 rfl) <| g_do rfl rfl rfl rfl rfl h20 <| g_v rfl (r_gtr rfl rfl) <| g_v rfl (r_pick0 rfl h20) <| g_v rfl r_assign <| g_nil ?_
              refine d_then ?_
              refine c_flat [(1, .pointer (some ⟨g1, 0, none⟩)), (62, .bool (decide (50000 < (p0.fSnap.size : Int))))] ⟨rfl, rfl, trivial⟩ (fun u => ?_)
              refine c_cut (ι := Unit) [1] (fun _ => []) (fun _ => ⟨w0, M, (100010, g1, .cells #[.int .i64 p0.fKind, .int .i64 p0.fFrom, .int .i64 p0.fTo, .int .i64 p0.fTerm, .int .i64 p0.fIndex, .int .i64 p0.fLogTerm, .int .i64 p0.fCommit, .bool p0.fGood, .slice Ap0_0 p0.fEntries.length cp0_0, .slice Ap0_1 p0.fVoters.length cp0_1, .string p0.fSnap] 25 (0, 0)) :: H, R, φ⟩) (fun _ => m_raft_Check_j1 p0 = some r) ?_ (fun _ u hm => ?_)
              ·
               refine c_cond rfl (fun h117 => ?_) (fun h117 => ?_)
               ·
                replace hm := ite_t hm (of_decide_eq_true h117)
                refine c_seq <| c_region <| g_v rfl r_assign <| g_nil <| d_then <| c_ret <| d_ret_then <| d_ret_block <| d_ret_then ?_
                cases hm
                exact d_retC () Try.results11 (res_tmp (res_nil rfl)) trivial (fun W h => ok_pre (H1 := [_]) (R1 := []) h (fun W hφ => hφ)) (.inr rfl)
               replace hm := ite_f hm (of_decide_eq_false h117)
               refine c_seq <| c_region <| g_v rfl (r_field (n := 4) Try.underlying25 rfl Try.sizeOf3 rfl rfl) <| g_v rfl (r_load (tag := 100010) rfl rfl rfl Try.isAgg3) <| g_v rfl (r_field (n := 5) Try.underlying25 rfl Try.sizeOf3 rfl rfl) <| g_v rfl (r_load (tag := 100010) rfl rfl rfl Try.isAgg3) <| g_v rfl (r_field (n := 8) Try.underlying25 rfl Try.sizeOf22 rfl rfl) <| g_v rfl (r_load (tag := 100010) rfl rfl rfl Try.isAgg22) <| g_v rfl (r_build _ rfl (bld38_19 _ _ _ _ _)) ?_
               replace hm := bnd hm
               obtain ⟨x118, hx119, hm⟩ := hm
               refine g_cn ⟨w0, M, _, _, φ⟩ (fun _ h => h) Try.call32 rfl rfl (c_plog_Check (⟨p0.fIndex, p0.fLogTerm, p0.fEntries⟩ : GLog) Ap0_0 cp0_0 hcp0_0 (fun W hS => fp0_0 W (ok_pre (H1 := [_]) (R1 := []) hS (fun W h => h))) _ hx119) (fun _ _ => ?_)
               refine g_v rfl (r_neq rfl rfl) <| g_v rfl r_assign <| g_nil <| d_then ?_
               refine c_flat [(1, .pointer (some ⟨g1, 0, none⟩)), (94, .bool (decide (x118 ≠ 0)))] ⟨rfl, rfl, trivial⟩ (fun u => ?_)
               refine c_cond rfl (fun h120 => ?_) (fun h120 => ?_)
               ·
                replace hm := ite_t hm (of_decide_eq_true h120)
                refine c_seq <| c_region <| g_v rfl r_assign <| g_nil <| d_then <| c_ret <| d_ret_then <| d_ret_block <| d_ret_then ?_
                cases hm
                exact d_retC () Try.results11 (res_tmp (res_nil rfl)) trivial (fun W h => ok_pre (H1 := [_]) (R1 := []) h (fun W hφ => hφ)) (.inr rfl)
               replace hm := ite_f hm (of_decide_eq_false h120)
               refine c_seq <| ga_start (n := 19) ⟨w0, M, (100010, g1, .cells #[.int .i64 p0.fKind, .int .i64 p0.fFrom, .int .i64 p0.fTo, .int .i64 p0.fTerm, .int .i64 p0.fIndex, .int .i64 p0.fLogTerm, .int .i64 p0.fCommit, .bool p0.fGood, .slice Ap0_0 p0.fEntries.length cp0_0, .slice Ap0_1 p0.fVoters.length cp0_1, .string p0.fSnap] 25 (0, 0)) :: H, R, φ⟩ [] #[false, false, false, false, false, false, false, false, false, false, false, false, false, false, false, false, false, false, false] (fun W h => h.phi (fun W hφ => hφ)) mixed rfl rfl <| ga_r (i := 0) (bz 19 1) rfl (by kernel_rfl) (by decide) rfl (r_field (n := 8) Try.underlying25 rfl Try.sizeOf22 rfl rfl) <| ga_r (i := 1) (bz 19 3) rfl (by kernel_rfl) (by decide) rfl (r_load (tag := 100010) rfl rfl rfl Try.isAgg22) <| ga_r (i := 2) (bz 19 7) rfl (by kernel_rfl) (by decide) rfl (r_lenL Try.underlying22 rfl) <| ga_r (i := 3) (bz 19 15) rfl (by kernel_rfl) (by decide) rfl (r_gtr rfl rfl) <| ga_r (i := 4) (bz 19 31) rfl (by kernel_rfl) (by decide) rfl (r_move) ?_
               refine ga_if (t := 109) rfl (fun h133 => ?_) (fun h133 => ?_)
               ·
                replace hm := ite_t hm (of_decide_eq_true h133)
                refine ga_do (i := 5) (bz 19 63) rfl (by kernel_rfl) (fun _ _ _ _ h => h) rfl rfl rfl rfl rfl h133 (r_field (n := 8) Try.underlying25 rfl Try.sizeOf22 rfl rfl) <| ga_do (i := 6) (bz 19 127) rfl (by kernel_rfl) (fun _ _ _ _ h => h) rfl rfl rfl rfl rfl h133 (r_load (tag := 100010) rfl rfl rfl Try.isAgg22) <| ga_do (i := 7) (bz 19 255) rfl (by kernel_rfl) (fun _ _ _ _ h => h) rfl rfl rfl rfl rfl h133 (r_field (n := 8) Try.underlying25 rfl Try.sizeOf22 rfl rfl) <| ga_do (i := 8) (bz 19 511) rfl (by kernel_rfl) (fun _ _ _ _ h => h) rfl rfl rfl rfl rfl h133 (r_load (tag := 100010) rfl rfl rfl Try.isAgg22) <| ga_do (i := 9) (bz 19 1023) rfl (by kernel_rfl) (fun _ _ _ _ h => h) rfl rfl rfl rfl rfl h133 (r_lenL Try.underlying22 rfl) <| ga_do (i := 10) (bz 19 2047) rfl (by kernel_rfl) (fun _ _ _ _ h => h) rfl rfl rfl rfl rfl h133 (r_sub rfl rfl rfl) ?_
                replace hm := bnd hm
                obtain ⟨x134, hx134, hm⟩ := hm
                refine ga_know _ (fun W hS => cl_at (p := (Sta.mk w0 M H R φ).ok) (sz := 3) (fun _ => rfl) (by decide) (ok_pre (H1 := [_]) (R1 := []) hS (fun W h => h)) fp0_0 hx134) ?_
                rintro ⟨ad135, hA137, f136⟩
                refine ga_do (i := 11) (bz 19 4095) rfl (by kernel_rfl) (fun _ _ _ _ h => h) rfl rfl rfl rfl rfl h133 (r_ix Try.underlying22 Try.sizeOf36 rfl hA137 rfl hx134) ?_
                have f138 := fun (W : World) (h : (Sta.mk w0 M H R φ).ok W) => Cl.drop (f136 W h) 0
                refine ga_do (i := 12) (bz 19 8191) rfl (by kernel_rfl) (fun _ _ _ _ h => h) rfl rfl rfl rfl rfl h133 (r_fieldF Try.underlying36 rfl Try.sizeOf3 rfl) <| ga_do (i := 13) (bz 19 16383) rfl (by kernel_rfl) (fun _ _ _ _ h => h) rfl rfl rfl rfl rfl h133 (r_ld rfl Try.isAgg3 (fun W hS => Cl.head (f138 W (ok_pre (H1 := [_]) (R1 := []) hS (fun W h => h))))) <| ga_rG (i := 14) (bz 19 32767) rfl (by kernel_rfl) (by decide) rfl rfl rfl rfl rfl h133 (r_field (n := 3) Try.underlying25 rfl Try.sizeOf3 rfl rfl) <| ga_rG (i := 15) (bz 19 65535) rfl (by kernel_rfl) (by decide) rfl rfl rfl rfl rfl h133 (r_load (tag := 100010) rfl rfl rfl Try.isAgg3) <| ga_rG (i := 16) (bz 19 131071) rfl (by kernel_rfl) (by decide) rfl rfl rfl rfl rfl h133 (r_gtr rfl rfl) <| ga_r (i := 17) (bz 19 262143) rfl (by kernel_rfl) (by decide) rfl (r_pick1 rfl h133) <| ga_r (i := 18) (bz 19 524287) rfl (by kernel_rfl) (by decide) rfl (r_assign) <| ga_done (by kernel_rfl) <| d_then ?_
                refine c_flat [(1, .pointer (some ⟨g1, 0, none⟩)), (104, .bool (decide (p0.fTerm < x134.fTerm)))] ⟨rfl, rfl, trivial⟩ (fun u => ?_)
                refine c_cond rfl (fun h139 => ?_) (fun h139 => ?_)
                ·
                 replace hm := ite_t hm (of_decide_eq_true h139)
                 refine c_seq <| c_region <| g_v rfl r_assign <| g_nil <| d_then <| c_ret <| d_ret_then <| d_ret_block <| d_ret_then ?_
                 cases hm
                 exact d_retC () Try.results11 (res_tmp (res_nil rfl)) trivial (fun W h => ok_pre (H1 := [_]) (R1 := []) h (fun W hφ => hφ)) (.inr rfl)
                replace hm := ite_f hm (of_decide_eq_false h139)
                refine c_seq <| c_region <| g_v rfl (r_field (n := 9) Try.underlying25 rfl Try.sizeOf23 rfl rfl) <| g_v rfl (r_load (tag := 100010) rfl rfl rfl Try.isAgg23) <| g_v rfl (r_lenL Try.underlying23 rfl) <| g_v rfl (r_eql rfl rfl) <| g_v rfl r_move ?_
                refine g_if rfl rfl rfl rfl rfl (fun h140 => ?_) (fun h140 => ?_)
                ·
                 replace hm := ite_t hm (of_decide_eq_true h140)
                 refine g_v rfl (r_field (n := 0) Try.underlying25 rfl Try.sizeOf3 rfl rfl) <| g_do rfl rfl rfl rfl rfl h140 <| g_v rfl (r_load (tag := 100010) rfl rfl rfl Try.isAgg3) <| g_do rfl rfl rfl rfl rfl h140 <| g_v rfl (r_neq rfl rfl) <| g_v rfl (r_pick1 rfl h140) <| g_v rfl r_assign <| g_nil <| d_then ?_
                 refine c_flat [(1, .pointer (some ⟨g1, 0, none⟩)), (123, .bool (decide (p0.fKind ≠ 4)))] ⟨rfl, rfl, trivial⟩ (fun u => ?_)
                 refine c_cond rfl (fun h141 => ?_) (fun h141 => ?_)
                 ·
                  replace hm := ite_t hm (of_decide_eq_true h141)
                  refine c_seq <| c_region <| g_v rfl r_assign <| g_nil <| d_then <| c_ret <| d_ret_then <| d_ret_block <| d_ret_then ?_
                  cases hm
                  exact d_retC () Try.results11 (res_tmp (res_nil rfl)) trivial (fun W h => ok_pre (H1 := [_]) (R1 := []) h (fun W hφ => hφ)) (.inr rfl)
                 replace hm := ite_f hm (of_decide_eq_false h141)
                 refine c_skip ?_
                 exact d_round () hm Nat.zero_lt_one ⟨rfl, trivial⟩ (fun W h => h.phi (fun W hφ => hφ))
                replace hm := ite_f hm (of_decide_eq_false h140)
                refine g_no rfl rfl rfl rfl rfl h140 <| g_no rfl rfl rfl rfl rfl h140 <| g_v rfl (r_pick0 rfl h140) <| g_v rfl r_assign <| g_nil <| d_then <| c_cond0 rfl rfl <| c_skip ?_
                exact d_round () hm Nat.zero_lt_one ⟨rfl, trivial⟩ (fun W h => h.phi (fun W hφ => hφ))
               replace hm := ite_f hm (of_decide_eq_false h133)
               refine ga_no (i := 5) (bz 19 63) rfl (by kernel_rfl) (fun _ _ _ _ h => h) rfl rfl rfl rfl rfl h133 <| ga_no (i := 6) (bz 19 127) rfl (by kernel_rfl) (fun _ _ _ _ h => h) rfl rfl rfl rfl rfl h133 <| ga_no (i := 7) (bz 19 255) rfl (by kernel_rfl) (fun _ _ _ _ h => h) rfl rfl rfl rfl rfl h133 <| ga_no (i := 8) (bz 19 511) rfl (by kernel_rfl) (fun _ _ _ _ h => h) rfl rfl rfl rfl rfl h133 <| ga_no (i := 9) (bz 19 1023) rfl (by kernel_rfl) (fun _ _ _ _ h => h) rfl rfl rfl rfl rfl h133 <| ga_no (i := 10) (bz 19 2047) rfl (by kernel_rfl) (fun _ _ _ _ h => h) rfl rfl rfl rfl rfl h133 <| ga_no (i := 11) (bz 19 4095) rfl (by kernel_rfl) (fun _ _ _ _ h => h) rfl rfl rfl rfl rfl h133 <| ga_no (i := 12) (bz 19 8191) rfl (by kernel_rfl) (fun _ _ _ _ h => h) rfl rfl rfl rfl rfl h133 <| ga_no (i := 13) (bz 19 16383) rfl (by kernel_rfl) (fun _ _ _ _ h => h) rfl rfl rfl rfl rfl h133 <| ga_no (i := 14) (bz 19 32767) rfl (by kernel_rfl) (fun _ _ _ _ h => h) rfl rfl rfl rfl rfl h133 ?_
               refine ga_no (i := 15) (bz 19 65535) rfl (by kernel_rfl) (fun _ _ _ _ h => h) rfl rfl rfl rfl rfl h133 <| ga_no (i := 16) (bz 19 131071) rfl (by kernel_rfl) (fun _ _ _ _ h => h) rfl rfl rfl rfl rfl h133 <| ga_r (i := 17) (bz 19 262143) rfl (by kernel_rfl) (by decide) rfl (r_pick0 rfl h133) <| ga_r (i := 18) (bz 19 524287) rfl (by kernel_rfl) (by decide) rfl (r_assign) <| ga_done (by kernel_rfl) <| d_then <| c_cond0 rfl rfl <| c_seq <| c_region <| g_v rfl (r_field (n := 9) Try.underlying25 rfl Try.sizeOf23 rfl rfl) ?_
               refine g_v rfl (r_load (tag := 100010) rfl rfl rfl Try.isAgg23) <| g_v rfl (r_lenL Try.underlying23 rfl) <| g_v rfl (r_eql rfl rfl) <| g_v rfl r_move ?_
               refine g_if rfl rfl rfl rfl rfl (fun h142 => ?_) (fun h142 => ?_)
               ·
                replace hm := ite_t hm (of_decide_eq_true h142)
                refine g_v rfl (r_field (n := 0) Try.underlying25 rfl Try.sizeOf3 rfl rfl) <| g_do rfl rfl rfl rfl rfl h142 <| g_v rfl (r_load (tag := 100010) rfl rfl rfl Try.isAgg3) <| g_do rfl rfl rfl rfl rfl h142 <| g_v rfl (r_neq rfl rfl) <| g_v rfl (r_pick1 rfl h142) <| g_v rfl r_assign <| g_nil <| d_then ?_
                refine c_flat [(1, .pointer (some ⟨g1, 0, none⟩)), (123, .bool (decide (p0.fKind ≠ 4)))] ⟨rfl, rfl, trivial⟩ (fun u => ?_)
                refine c_cond rfl (fun h143 => ?_) (fun h143 => ?_)
                ·
                 replace hm := ite_t hm (of_decide_eq_true h143)
                 refine c_seq <| c_region <| g_v rfl r_assign <| g_nil <| d_then <| c_ret <| d_ret_then <| d_ret_block <| d_ret_then ?_
                 cases hm
                 exact d_retC () Try.results11 (res_tmp (res_nil rfl)) trivial (fun W h => ok_pre (H1 := [_]) (R1 := []) h (fun W hφ => hφ)) (.inr rfl)
                replace hm := ite_f hm (of_decide_eq_false h143)
                refine c_skip ?_
                exact d_round () hm Nat.zero_lt_one ⟨rfl, trivial⟩ (fun W h => h.phi (fun W hφ => hφ))
               replace hm := ite_f hm (of_decide_eq_false h142)
               refine g_no rfl rfl rfl rfl rfl h142 <| g_no rfl rfl rfl rfl rfl h142 <| g_v rfl (r_pick0 rfl h142) <| g_v rfl r_assign <| g_nil <| d_then ?_
               refine c_flat [(1, .pointer (some ⟨g1, 0, none⟩)), (123, .bool false)] ⟨rfl, rfl, trivial⟩ (fun u => ?_)
               refine c_cond0 rfl rfl <| c_skip ?_
               exact d_round () hm Nat.zero_lt_one ⟨rfl, trivial⟩ (fun W h => h.phi (fun W hφ => hφ))
              unfold m_raft_Check_j1 at hm
              refine d_flat [(1, .pointer (some ⟨g1, 0, none⟩))] ⟨rfl, trivial⟩ (fun u => ?_)
              refine d_normal_block <| d_then <| c_seq <| c_seq <| c_region <| g_v rfl (r_field (n := 9) Try.underlying25 rfl Try.sizeOf23 rfl rfl) <| g_v rfl (r_load (tag := 100010) rfl rfl rfl Try.isAgg23) <| g_v rfl (r_lenL Try.underlying23 rfl) <| g_v rfl r_move <| g_nil ?_
              refine d_then ?_
              refine c_cut (ι := Unit) [1] (fun _ => []) (fun _ => ⟨w0, M, (100010, g1, .cells #[.int .i64 p0.fKind, .int .i64 p0.fFrom, .int .i64 p0.fTo, .int .i64 p0.fTerm, .int .i64 p0.fIndex, .int .i64 p0.fLogTerm, .int .i64 p0.fCommit, .bool p0.fGood, .slice Ap0_0 p0.fEntries.length cp0_0, .slice Ap0_1 p0.fVoters.length cp0_1, .string p0.fSnap] 25 (0, 0)) :: H, R, φ⟩) (fun _ => m_raft_Check_j2 p0 = some r) ?_ (fun _ u hm => ?_)
              ·
               refine c_block ?_
               replace hm := bnd hm
               obtain ⟨out3, hl3, hr3⟩ := hm
               obtain ⟨n100', hl3⟩ := loop_lp hl3
               refine c_loopU (ι := Nat × Int) [1, 134, 135, 136] (fun ⟨n100, i84⟩ => [(136, .int .i64 i84)]) (fun ⟨n100, i84⟩ => ⟨w0, M, (100010, g1, .cells #[.int .i64 p0.fKind, .int .i64 p0.fFrom, .int .i64 p0.fTo, .int .i64 p0.fTerm, .int .i64 p0.fIndex, .int .i64 p0.fLogTerm, .int .i64 p0.fCommit, .bool p0.fGood, .slice Ap0_0 p0.fEntries.length cp0_0, .slice Ap0_1 p0.fVoters.length cp0_1, .string p0.fSnap] 25 (0, 0)) :: H, R, φ⟩) (fun ⟨n100, i84⟩ => Lp (fun s => m_raft_Check_s3 p0 s) n100 i84 out3) (fun ⟨n100, i84⟩ => n100) (n100', 0) hl3 ⟨rfl, rfl, rfl, rfl, trivial⟩ (fun W h => h.phi (fun W hφ => hφ)) (fun ⟨n100, i84⟩ u hlp => ?_)
               obtain ⟨o3, hm, hnx3⟩ := lp_step hlp
               clear hlp
               replace hm : m_raft_Check_s3 p0 i84 = some o3 := hm
               unfold m_raft_Check_s3 at hm
               refine c_flat [(1, .pointer (some ⟨g1, 0, none⟩)), (134, .slice Ap0_1 p0.fVoters.length cp0_1), (135, .int .i64 (p0.fVoters.length : Int)), (136, .int .i64 i84)] ⟨rfl, rfl, rfl, rfl, trivial⟩ (fun u => ?_)
               refine c_seq <| c_region <| g_v rfl (r_lss rfl rfl) <| g_nil <| d_then <| c_seq ?_
               refine c_cond rfl (fun h101 => ?_) (fun h101 => ?_)
               ·
                replace hm := ite_t hm (of_decide_eq_true h101)
                refine c_skip <| d_then <| c_seq <| c_block <| c_seq <| c_region <| g_v rfl r_move ?_
                replace hm := bnd hm
                obtain ⟨x102, hx102, hm⟩ := hm
                refine g_know _ (fun W hS => cl_at (p := (Sta.mk w0 M H R φ).ok) (sz := 1) (fun _ => rfl) (by decide) (ok_pre (H1 := [_]) (R1 := []) hS (fun W h => h)) fp0_1 hx102) ?_
                rintro ⟨ad103, hA105, f104⟩
                refine g_v rfl (r_ix Try.underlying23 Try.sizeOf3 rfl hA105 rfl hx102) <| g_v rfl (r_ld rfl Try.isAgg3 (fun W hS => Cl.head (f104 W (ok_pre (H1 := [_]) (R1 := []) hS (fun W h => h))))) <| g_v rfl r_assign <| g_v rfl r_assign <| g_nil <| d_then <| c_seq <| c_region <| g_v rfl r_move ?_
                replace hm := bnd hm
                obtain ⟨x106, hx107, hm⟩ := hm
                refine g_cn ⟨w0, M, _, _, φ⟩ (fun _ h => h) Try.call31 rfl rfl (c_raft_node x102 _ hx107) (fun _ _ => ?_)
                refine g_v rfl (r_not rfl) <| g_v rfl r_move ?_
                refine g_if rfl rfl rfl rfl rfl (fun h108 => ?_) (fun h108 => ?_)
                ·
                 have h108' : x106 = true := by revert h108; cases x106 <;> simp
                 replace hm := ite_t hm h108'
                 refine g_v rfl r_move <| g_do rfl rfl rfl rfl rfl h108 <| g_v rfl (r_gtr rfl rfl) <| g_do rfl rfl rfl rfl rfl h108 <| g_v rfl r_move ?_
                 refine g_if rfl rfl rfl rfl rfl (fun h109 => ?_) (fun h109 => ?_)
                 ·
                  replace hm := ite_t hm (of_decide_eq_true h109)
                  refine g_v rfl r_move <| g_do rfl rfl rfl rfl rfl h109 <| g_v rfl (r_field (n := 9) Try.underlying25 rfl Try.sizeOf23 rfl rfl) <| g_do rfl rfl rfl rfl rfl h109 <| g_v rfl (r_load (tag := 100010) rfl rfl rfl Try.isAgg23) <| g_do rfl rfl rfl rfl rfl h109 <| g_v rfl r_move <| g_do rfl rfl rfl rfl rfl h109 <| g_v rfl (r_sub rfl rfl rfl) <| g_do rfl rfl rfl rfl rfl h109 ?_
                  replace hm := bnd hm
                  obtain ⟨x110, hx110, hm⟩ := hm
                  refine g_know _ (fun W hS => cl_at (p := (Sta.mk w0 M H R φ).ok) (sz := 1) (fun _ => rfl) (by decide) (ok_pre (H1 := [_]) (R1 := []) hS (fun W h => h)) fp0_1 hx110) ?_
                  rintro ⟨ad111, hA113, f112⟩
                  refine g_v rfl (r_ix Try.underlying23 Try.sizeOf3 rfl hA113 rfl hx110) <| g_do rfl rfl rfl rfl rfl h109 <| g_v rfl (r_ld rfl Try.isAgg3 (fun W hS => Cl.head (f112 W (ok_pre (H1 := [_]) (R1 := []) hS (fun W h => h))))) <| g_do rfl rfl rfl rfl rfl h109 <| g_v rfl (r_leq rfl rfl) <| g_do rfl rfl rfl rfl rfl h108 <| g_v rfl (r_pick1 rfl h109) <| g_v rfl (r_pick0 rfl h108) <| g_nil <| d_then ?_
                  refine c_flat [(1, .pointer (some ⟨g1, 0, none⟩)), (134, .slice Ap0_1 p0.fVoters.length cp0_1), (135, .int .i64 (p0.fVoters.length : Int)), (136, .int .i64 i84), (157, .bool (decide (x102 ≤ x110)))] ⟨rfl, rfl, rfl, rfl, rfl, trivial⟩ (fun u => ?_)
                  refine c_cond rfl (fun h114 => ?_) (fun h114 => ?_)
                  ·
                   replace hm := ite_t hm (of_decide_eq_true h114)
                   refine c_seq <| c_region <| g_v rfl r_assign <| g_nil <| d_then <| c_ret <| d_ret_block <| d_ret_then <| d_ret_then <| d_ret_block ?_
                   refine d_ret_then <| d_ret_then ?_
                   replace hm := nx_out (C := (fun e : Unit ⊕ Int => Sum.elim (fun e => m_raft_Check_j2 p0) (fun x => some x) e = some r)) hm hnx3 hr3
                   replace hm : some 1 = some r := hm
                   cases hm
                   exact d_retC () Try.results11 (res_tmp (res_nil rfl)) trivial (fun W h => ok_pre (H1 := [_]) (R1 := []) h (fun W hφ => hφ)) (.inr rfl)
                  replace hm := ite_f hm (of_decide_eq_false h114)
                  refine c_skip <| d_normal_block <| d_then <| c_region <| g_v rfl (r_add rfl rfl rfl) <| g_v rfl r_move <| g_nil ?_
                  obtain ⟨n115, hn115, hlp⟩ := nx_inl hm hnx3
                  exact d_round (n115, w64 (i84 + 1)) hlp hn115 ⟨rfl, rfl, rfl, rfl, trivial⟩ (fun W h => h.phi (fun W hφ => hφ))
                 replace hm := ite_f hm (of_decide_eq_false h109)
                 iterate 7 refine g_no rfl rfl rfl rfl rfl h109 ?_
                 refine g_do rfl rfl rfl rfl rfl h108 <| g_v rfl (r_pick0 rfl h109) <| g_v rfl (r_pick0 rfl h108) <| g_nil <| d_then ?_
                 refine c_flat [(1, .pointer (some ⟨g1, 0, none⟩)), (134, .slice Ap0_1 p0.fVoters.length cp0_1), (135, .int .i64 (p0.fVoters.length : Int)), (136, .int .i64 i84), (157, .bool false)] ⟨rfl, rfl, rfl, rfl, rfl, trivial⟩ (fun u => ?_)
                 refine c_cond0 rfl rfl <| c_skip <| d_normal_block <| d_then <| c_region <| g_v rfl (r_add rfl rfl rfl) <| g_v rfl r_move <| g_nil ?_
                 obtain ⟨n116, hn116, hlp⟩ := nx_inl hm hnx3
                 exact d_round (n116, w64 (i84 + 1)) hlp hn116 ⟨rfl, rfl, rfl, rfl, trivial⟩ (fun W h => h.phi (fun W hφ => hφ))
                have h108' : x106 = false := by revert h108; cases x106 <;> simp
                replace hm := ite_f hm (bool_nt h108')
                refine g_no rfl rfl rfl rfl rfl h108 <| g_no rfl rfl rfl rfl rfl h108 ?_
                iterate 8 refine g_nu rfl rfl rfl rfl rfl ?_
                refine g_no rfl rfl rfl rfl rfl h108 <| g_v rfl (r_pick1 rfl h108) <| g_nil <| d_then ?_
                refine c_flat [(1, .pointer (some ⟨g1, 0, none⟩)), (134, .slice Ap0_1 p0.fVoters.length cp0_1), (135, .int .i64 (p0.fVoters.length : Int)), (136, .int .i64 i84), (157, .bool true)] ⟨rfl, rfl, rfl, rfl, rfl, trivial⟩ (fun u => ?_)
                refine c_cond1 rfl rfl <| c_seq <| c_region <| g_v rfl r_assign <| g_nil <| d_then <| c_ret <| d_ret_block <| d_ret_then <| d_ret_then ?_
                refine d_ret_block <| d_ret_then <| d_ret_then ?_
                replace hm := nx_out (C := (fun e : Unit ⊕ Int => Sum.elim (fun e => m_raft_Check_j2 p0) (fun x => some x) e = some r)) hm hnx3 hr3
                replace hm : some 1 = some r := hm
                cases hm
                exact d_retC () Try.results11 (res_tmp (res_nil rfl)) trivial (fun W h => ok_pre (H1 := [_]) (R1 := []) h (fun W hφ => hφ)) (.inr rfl)
               replace hm := ite_f hm (of_decide_eq_false h101)
               refine c_exit <| d_exit_then <| d_exit_then <| d_exit_block ?_
               replace hm := nx_out (C := (fun e : Unit ⊕ Int => Sum.elim (fun e => m_raft_Check_j2 p0) (fun x => some x) e = some r)) hm hnx3 hr3
               exact d_round () hm Nat.zero_lt_one ⟨rfl, trivial⟩ (fun W h => h.phi (fun W hφ => hφ))
              unfold m_raft_Check_j2 at hm
              refine d_flat [(1, .pointer (some ⟨g1, 0, none⟩))] ⟨rfl, trivial⟩ (fun u => ?_)
              refine d_then <| c_seq <| c_seq <| c_region <| g_v rfl (r_field (n := 9) Try.underlying25 rfl Try.sizeOf23 rfl rfl) <| g_v rfl (r_load (tag := 100010) rfl rfl rfl Try.isAgg23) <| g_v rfl (r_lenL Try.underlying23 rfl) <| g_v rfl (r_eql rfl rfl) <| g_nil <| d_then ?_
              refine c_cond rfl (fun h74 => ?_) (fun h74 => ?_)
              ·
               replace hm := ite_t hm (of_decide_eq_true h74)
               refine c_seq <| c_region <| g_v rfl r_assign <| g_nil <| d_then <| c_ret <| d_ret_then ?_
               cases hm
               exact d_retC () Try.results11 (res_tmp (res_nil rfl)) trivial (fun W h => ok_pre (H1 := [_]) (R1 := []) h (fun W hφ => hφ)) (.inr rfl)
              replace hm := ite_f hm (of_decide_eq_false h74)
              refine c_skip <| d_then <| c_seq <| c_region <| g_v rfl r_assign <| g_nil <| d_then <| c_ret ?_
              cases hm
              exact d_retC () Try.results11 (res_tmp (res_nil rfl)) trivial (fun W h => ok_pre (H1 := [_]) (R1 := []) h (fun W hφ => hφ)) (.inr rfl)
             replace hm := ite_t hm (of_decide_eq_true h20)
             iterate 3 refine g_no rfl rfl rfl rfl rfl h20 ?_
             refine g_v rfl (r_pick1 rfl h20) <| g_v rfl r_assign <| g_nil <| d_then ?_
             refine c_flat [(1, .pointer (some ⟨g1, 0, none⟩)), (62, .bool true)] ⟨rfl, rfl, trivial⟩ (fun u => ?_)
             refine c_cond1 rfl rfl <| c_seq <| c_region <| g_v rfl r_assign <| g_nil <| d_then <| c_ret <| d_ret_block <| d_ret_then ?_
             cases hm
             exact d_retC () Try.results11 (res_tmp (res_nil rfl)) trivial (fun W h => ok_pre (H1 := [_]) (R1 := []) h (fun W hφ => hφ)) (.inr rfl)
            replace hm := ite_t hm (of_decide_eq_true h19)
            iterate 6 refine g_no rfl rfl rfl rfl rfl h19 ?_
            refine g_v rfl (r_pick1 rfl h19) <| g_v rfl r_move ?_
            iterate 4 refine g_no rfl rfl rfl rfl rfl rfl ?_
            refine g_v rfl (r_pick1 rfl rfl) <| g_v rfl r_assign <| g_nil <| d_then ?_
            refine c_flat [(1, .pointer (some ⟨g1, 0, none⟩)), (62, .bool true)] ⟨rfl, rfl, trivial⟩ (fun u => ?_)
            refine c_cond1 rfl rfl <| c_seq <| c_region <| g_v rfl r_assign <| g_nil <| d_then <| c_ret <| d_ret_block <| d_ret_then ?_
            cases hm
            exact d_retC () Try.results11 (res_tmp (res_nil rfl)) trivial (fun W h => ok_pre (H1 := [_]) (R1 := []) h (fun W hφ => hφ)) (.inr rfl)
           replace hm := ite_t hm (of_decide_eq_true h18)
           iterate 3 refine g_no rfl rfl rfl rfl rfl h18 ?_
           refine g_v rfl (r_pick1 rfl h18) <| g_v rfl r_move ?_
           iterate 7 refine g_no rfl rfl rfl rfl rfl rfl ?_
           refine g_v rfl (r_pick1 rfl rfl) <| g_v rfl r_move ?_
           iterate 4 refine g_no rfl rfl rfl rfl rfl rfl ?_
           refine g_v rfl (r_pick1 rfl rfl) <| g_v rfl r_assign <| g_nil <| d_then ?_
           refine c_flat [(1, .pointer (some ⟨g1, 0, none⟩)), (62, .bool true)] ⟨rfl, rfl, trivial⟩ (fun u => ?_)
           refine c_cond1 rfl rfl <| c_seq <| c_region <| g_v rfl r_assign <| g_nil <| d_then <| c_ret <| d_ret_block <| d_ret_then ?_
           cases hm
           exact d_retC () Try.results11 (res_tmp (res_nil rfl)) trivial (fun W h => ok_pre (H1 := [_]) (R1 := []) h (fun W hφ => hφ)) (.inr rfl)
          replace hm := ite_t hm (of_decide_eq_true h17)
          iterate 4 refine g_no rfl rfl rfl rfl rfl h17 ?_
          refine g_v rfl (r_pick1 rfl h17) <| g_v rfl r_move ?_
          iterate 4 refine g_no rfl rfl rfl rfl rfl rfl ?_
          refine g_v rfl (r_pick1 rfl rfl) <| g_v rfl r_move ?_
          iterate 7 refine g_no rfl rfl rfl rfl rfl rfl ?_
          refine g_v rfl (r_pick1 rfl rfl) <| g_v rfl r_move ?_
          iterate 4 refine g_no rfl rfl rfl rfl rfl rfl ?_
          refine g_v rfl (r_pick1 rfl rfl) <| g_v rfl r_assign <| g_nil <| d_then ?_
          refine c_flat [(1, .pointer (some ⟨g1, 0, none⟩)), (62, .bool true)] ⟨rfl, rfl, trivial⟩ (fun u => ?_)
          refine c_cond1 rfl rfl <| c_seq <| c_region <| g_v rfl r_assign <| g_nil <| d_then <| c_ret <| d_ret_block <| d_ret_then ?_
          cases hm
          exact d_retC () Try.results11 (res_tmp (res_nil rfl)) trivial (fun W h => ok_pre (H1 := [_]) (R1 := []) h (fun W hφ => hφ)) (.inr rfl)
         replace hm := ite_t hm (of_decide_eq_true h15)
         refine g_no rfl rfl rfl rfl rfl h15 <| g_no rfl rfl rfl rfl rfl h15 <| g_v rfl (r_pick1 rfl h15) <| g_v rfl r_assign <| g_nil <| d_then ?_
         refine c_flat [(1, .pointer (some ⟨g1, 0, none⟩)), (33, .bool true)] ⟨rfl, rfl, trivial⟩ (fun u => ?_)
         refine c_cond1 rfl rfl <| c_seq <| c_region <| g_v rfl r_assign <| g_nil <| d_then <| c_ret <| d_ret_block <| d_ret_then ?_
         cases hm
         exact d_retC () Try.results11 (res_tmp (res_nil rfl)) trivial (fun W h => ok_pre (H1 := [_]) (R1 := []) h (fun W hφ => hφ)) (.inr rfl)
        replace hm := ite_t hm (of_decide_eq_true h14)
        refine g_no rfl rfl rfl rfl rfl h14 <| g_no rfl rfl rfl rfl rfl h14 <| g_v rfl (r_pick1 rfl h14) <| g_v rfl r_move ?_
        iterate 3 refine g_no rfl rfl rfl rfl rfl rfl ?_
        refine g_v rfl (r_pick1 rfl rfl) <| g_v rfl r_assign <| g_nil <| d_then ?_
        refine c_flat [(1, .pointer (some ⟨g1, 0, none⟩)), (33, .bool true)] ⟨rfl, rfl, trivial⟩ (fun u => ?_)
        refine c_cond1 rfl rfl <| c_seq <| c_region <| g_v rfl r_assign <| g_nil <| d_then <| c_ret <| d_ret_block <| d_ret_then ?_
        cases hm
        exact d_retC () Try.results11 (res_tmp (res_nil rfl)) trivial (fun W h => ok_pre (H1 := [_]) (R1 := []) h (fun W hφ => hφ)) (.inr rfl)
       replace hm := ite_t hm (of_decide_eq_true h13)
       refine g_no rfl rfl rfl rfl rfl h13 <| g_no rfl rfl rfl rfl rfl h13 <| g_v rfl (r_pick1 rfl h13) <| g_v rfl r_move ?_
       iterate 3 refine g_no rfl rfl rfl rfl rfl rfl ?_
       refine g_v rfl (r_pick1 rfl rfl) <| g_v rfl r_move ?_
       iterate 3 refine g_no rfl rfl rfl rfl rfl rfl ?_
       refine g_v rfl (r_pick1 rfl rfl) <| g_v rfl r_assign <| g_nil <| d_then ?_
       refine c_flat [(1, .pointer (some ⟨g1, 0, none⟩)), (33, .bool true)] ⟨rfl, rfl, trivial⟩ (fun u => ?_)
       refine c_cond1 rfl rfl <| c_seq <| c_region <| g_v rfl r_assign <| g_nil <| d_then <| c_ret <| d_ret_block <| d_ret_then ?_
       cases hm
       exact d_retC () Try.results11 (res_tmp (res_nil rfl)) trivial (fun W h => ok_pre (H1 := [_]) (R1 := []) h (fun W hφ => hφ)) (.inr rfl)
      replace hm := ite_t hm (of_decide_eq_true h12)
      refine g_no rfl rfl rfl rfl rfl h12 <| g_no rfl rfl rfl rfl rfl h12 <| g_v rfl (r_pick1 rfl h12) <| g_v rfl r_move ?_
      iterate 3 refine g_no rfl rfl rfl rfl rfl rfl ?_
      refine g_v rfl (r_pick1 rfl rfl) <| g_v rfl r_move ?_
      iterate 3 refine g_no rfl rfl rfl rfl rfl rfl ?_
      refine g_v rfl (r_pick1 rfl rfl) <| g_v rfl r_move ?_
      iterate 3 refine g_no rfl rfl rfl rfl rfl rfl ?_
      refine g_v rfl (r_pick1 rfl rfl) <| g_v rfl r_assign <| g_nil <| d_then ?_
      refine c_flat [(1, .pointer (some ⟨g1, 0, none⟩)), (33, .bool true)] ⟨rfl, rfl, trivial⟩ (fun u => ?_)
      refine c_cond1 rfl rfl <| c_seq <| c_region <| g_v rfl r_assign <| g_nil <| d_then <| c_ret <| d_ret_block <| d_ret_then ?_
      cases hm
      exact d_retC () Try.results11 (res_tmp (res_nil rfl)) trivial (fun W h => ok_pre (H1 := [_]) (R1 := []) h (fun W hφ => hφ)) (.inr rfl)
     replace hm := ite_t hm (of_decide_eq_true h11)
     refine g_no rfl rfl rfl rfl rfl h11 <| g_no rfl rfl rfl rfl rfl h11 <| g_v rfl (r_pick1 rfl h11) <| g_v rfl r_move ?_
     iterate 3 refine g_no rfl rfl rfl rfl rfl rfl ?_
     refine g_v rfl (r_pick1 rfl rfl) <| g_v rfl r_move ?_
     iterate 3 refine g_no rfl rfl rfl rfl rfl rfl ?_
     refine g_v rfl (r_pick1 rfl rfl) <| g_v rfl r_move ?_
     iterate 3 refine g_no rfl rfl rfl rfl rfl rfl ?_
     refine g_v rfl (r_pick1 rfl rfl) <| g_v rfl r_move ?_
     iterate 3 refine g_no rfl rfl rfl rfl rfl rfl ?_
     refine g_v rfl (r_pick1 rfl rfl) <| g_v rfl r_assign <| g_nil <| d_then ?_
     refine c_flat [(1, .pointer (some ⟨g1, 0, none⟩)), (33, .bool true)] ⟨rfl, rfl, trivial⟩ (fun u => ?_)
     refine c_cond1 rfl rfl <| c_seq <| c_region <| g_v rfl r_assign <| g_nil <| d_then <| c_ret <| d_ret_block <| d_ret_then ?_
     cases hm
     exact d_retC () Try.results11 (res_tmp (res_nil rfl)) trivial (fun W h => ok_pre (H1 := [_]) (R1 := []) h (fun W hφ => hφ)) (.inr rfl)
    have h9' : x7 = false := by revert h9; cases x7 <;> simp
    replace hm := ite_f hm (bool_nt h9')
    iterate 4 refine g_no rfl rfl rfl rfl rfl h9 ?_
    refine g_v rfl (r_pick1 rfl h9) <| g_v rfl r_assign <| g_nil <| d_then ?_
    refine c_flat [(1, .pointer (some ⟨g1, 0, none⟩)), (5, .bool true)] ⟨rfl, rfl, trivial⟩ (fun u => ?_)
    refine c_cond1 rfl rfl <| c_seq <| c_region <| g_v rfl r_assign <| g_nil <| d_then <| c_ret <| d_ret_block <| d_ret_then ?_
    cases hm
    exact d_retC () Try.results11 (res_tmp (res_nil rfl)) trivial (fun W h => ok_pre (H1 := [_]) (R1 := []) h (fun W hφ => hφ)) (.inr rfl)
   have h6' : x4 = false := by revert h6; cases x4 <;> simp
   replace hm := ite_f hm (bool_nt h6')
   iterate 3 refine g_no rfl rfl rfl rfl rfl h6 ?_
   refine g_v rfl (r_pick1 rfl h6) <| g_v rfl r_move ?_
   iterate 5 refine g_no rfl rfl rfl rfl rfl rfl ?_
   refine g_v rfl (r_pick1 rfl rfl) <| g_v rfl r_assign <| g_nil <| d_then ?_
   refine c_flat [(1, .pointer (some ⟨g1, 0, none⟩)), (5, .bool true)] ⟨rfl, rfl, trivial⟩ (fun u => ?_)
   refine c_cond1 rfl rfl <| c_seq <| c_region <| g_v rfl r_assign <| g_nil <| d_then <| c_ret <| d_ret_block <| d_ret_then ?_
   cases hm
   exact d_retC () Try.results11 (res_tmp (res_nil rfl)) trivial (fun W h => ok_pre (H1 := [_]) (R1 := []) h (fun W hφ => hφ)) (.inr rfl)
  replace hm := ite_t hm (of_decide_eq_true h3)
  iterate 3 refine g_no rfl rfl rfl rfl rfl h3 ?_
  refine g_v rfl (r_pick1 rfl h3) <| g_v rfl r_move ?_
  iterate 4 refine g_no rfl rfl rfl rfl rfl rfl ?_
  refine g_v rfl (r_pick1 rfl rfl) <| g_v rfl r_move ?_
  iterate 5 refine g_no rfl rfl rfl rfl rfl rfl ?_
  refine g_v rfl (r_pick1 rfl rfl) <| g_v rfl r_assign <| g_nil <| d_then ?_
  refine c_flat [(1, .pointer (some ⟨g1, 0, none⟩)), (5, .bool true)] ⟨rfl, rfl, trivial⟩ (fun u => ?_)
  refine c_cond1 rfl rfl <| c_seq <| c_region <| g_v rfl r_assign <| g_nil <| d_then <| c_ret <| d_ret_block <| d_ret_then ?_
  cases hm
  exact d_retC () Try.results11 (res_tmp (res_nil rfl)) trivial (fun W h => ok_pre (H1 := [_]) (R1 := []) h (fun W hφ => hφ)) (.inr rfl)
 replace hm := ite_t hm (of_decide_eq_true h2)
 refine g_no rfl rfl rfl rfl rfl h2 <| g_no rfl rfl rfl rfl rfl h2 <| g_v rfl (r_pick1 rfl h2) <| g_v rfl r_move ?_
 iterate 4 refine g_no rfl rfl rfl rfl rfl rfl ?_
 refine g_v rfl (r_pick1 rfl rfl) <| g_v rfl r_move ?_
 iterate 4 refine g_no rfl rfl rfl rfl rfl rfl ?_
 refine g_v rfl (r_pick1 rfl rfl) <| g_v rfl r_move ?_
 iterate 5 refine g_no rfl rfl rfl rfl rfl rfl ?_
 refine g_v rfl (r_pick1 rfl rfl) <| g_v rfl r_assign <| g_nil <| d_then ?_
 refine c_flat [(1, .pointer (some ⟨g1, 0, none⟩)), (5, .bool true)] ⟨rfl, rfl, trivial⟩ (fun u => ?_)
 refine c_cond1 rfl rfl <| c_seq <| c_region <| g_v rfl r_assign <| g_nil <| d_then <| c_ret <| d_ret_block <| d_ret_then ?_
 cases hm
 exact d_retC () Try.results11 (res_tmp (res_nil rfl)) trivial (fun W h => ok_pre (H1 := [_]) (R1 := []) h (fun W hφ => hφ)) (.inr rfl)
noncomputable def m_raft_state_down_j1 (p0 : Graft_state) (p1 : Int) (i4 : Int) : Option Graft_state :=
  some (⟨(⟨p0.fRaft.fMe, 0, 0, p0.fRaft.fCommit, p0.fRaft.fLeft, (⟨p1, i4, p0.fRaft.fHard.fVoters, p0.fRaft.fHard.fSnap, p0.fRaft.fHard.fLog⟩ : GHard), ([] : List Int), ([] : List GMark)⟩ : GRaft)⟩ : Graft_state)
noncomputable def m_raft_state_down (p0 : Graft_state) (p1 : Int) : Option Graft_state :=
  if p0.fRaft.fHard.fTerm ≠ p1 then
    m_raft_state_down_j1 p0 p1 0
  else
    m_raft_state_down_j1 p0 p1 p0.fRaft.fHard.fVote
theorem c_raft_state_down {w0 : World} {M : Nat → Prop} {H : List (Nat × Nat × Obj)} {R : List (Nat × Row)} {φ : World → Prop} (p0 : Graft_state) (Ap0_0 : Option Addr) (cp0_0 : Nat) (hcp0_0 : p0.fRaft.fHard.fVoters.length ≤ cp0_0) (fp0_0 : ∀ W, φ W → Cl W Ap0_0 (p0.fRaft.fHard.fVoters.flatMap (fun x : Int => [Value.int .i64 x]))) (Ap0_1 : Option Addr) (cp0_1 : Nat) (hcp0_1 : p0.fRaft.fHard.fLog.fEntries.length ≤ cp0_1) (fp0_1 : ∀ W, φ W → Cl W Ap0_1 (p0.fRaft.fHard.fLog.fEntries.flatMap GEntry.enc)) (Ap0_2 : Option Addr) (cp0_2 : Nat) (hcp0_2 : p0.fRaft.fVotes.length ≤ cp0_2) (fp0_2 : ∀ W, (Sta.mk w0 M H R φ).ok W → Cl W Ap0_2 (p0.fRaft.fVotes.flatMap (fun x : Int => [Value.int .i64 x]))) (Ap0_3 : Option Addr) (cp0_3 : Nat) (hcp0_3 : p0.fRaft.fMarks.length ≤ cp0_3) (fp0_3 : ∀ W, (Sta.mk w0 M H R φ).ok W → Cl W Ap0_3 (p0.fRaft.fMarks.flatMap GMark.enc)) (p1 : Int) (r : Graft_state) (hm : m_raft_state_down p0 p1 = some r) :
    Cn Try.prog 37 #[.agg #[.int .i64 p0.fRaft.fMe, .int .i64 p0.fRaft.fRole, .int .i64 p0.fRaft.fLeader, .int .i64 p0.fRaft.fCommit, .int .i64 p0.fRaft.fLeft, .int .i64 p0.fRaft.fHard.fTerm, .int .i64 p0.fRaft.fHard.fVote, .slice Ap0_0 p0.fRaft.fHard.fVoters.length cp0_0, .string p0.fRaft.fHard.fSnap, .int .i64 p0.fRaft.fHard.fLog.fBase, .int .i64 p0.fRaft.fHard.fLog.fBaseTerm, .slice Ap0_1 p0.fRaft.fHard.fLog.fEntries.length cp0_1, .slice Ap0_2 p0.fRaft.fVotes.length cp0_2, .slice Ap0_3 p0.fRaft.fMarks.length cp0_3], .int .i64 p1] ⟨w0, M, H, R, φ⟩ (fun x : Option Addr × Nat × Option Addr × Nat × Option Addr × Nat × Option Addr × Nat => .agg #[.int .i64 r.fRaft.fMe, .int .i64 r.fRaft.fRole, .int .i64 r.fRaft.fLeader, .int .i64 r.fRaft.fCommit, .int .i64 r.fRaft.fLeft, .int .i64 r.fRaft.fHard.fTerm, .int .i64 r.fRaft.fHard.fVote, .slice x.1 r.fRaft.fHard.fVoters.length x.2.1, .string r.fRaft.fHard.fSnap, .int .i64 r.fRaft.fHard.fLog.fBase, .int .i64 r.fRaft.fHard.fLog.fBaseTerm, .slice x.2.2.1 r.fRaft.fHard.fLog.fEntries.length x.2.2.2.1, .slice x.2.2.2.2.1 r.fRaft.fVotes.length x.2.2.2.2.2.1, .slice x.2.2.2.2.2.2.1 r.fRaft.fMarks.length x.2.2.2.2.2.2.2]) (fun x => r.fRaft.fHard.fVoters.length ≤ x.2.1 ∧ r.fRaft.fHard.fLog.fEntries.length ≤ x.2.2.2.1 ∧ r.fRaft.fVotes.length ≤ x.2.2.2.2.2.1 ∧ r.fRaft.fMarks.length ≤ x.2.2.2.2.2.2.2) (fun x => ⟨w0, M, H, R, fun W => φ W ∧ Cl W x.1 (r.fRaft.fHard.fVoters.flatMap (fun x : Int => [Value.int .i64 x])) ∧ Cl W x.2.2.1 (r.fRaft.fHard.fLog.fEntries.flatMap GEntry.enc) ∧ Cl W x.2.2.2.2.1 (r.fRaft.fVotes.flatMap (fun x : Int => [Value.int .i64 x])) ∧ Cl W x.2.2.2.2.2.2.1 (r.fRaft.fMarks.flatMap GMark.enc)⟩) := by
 unfold m_raft_state_down at hm
 refine cn_intro (fn := Try.f37) (N := 27) Try.func37 rfl Try.ntmps37 rfl <| c_seq <| c_region ?_
 refine g_e rfl (e_box 100020 rfl) (fun g1 _ => ?_)
 refine g_e rfl (e_alloc 100040 Try.zeroValue84) (fun g2 _ => ?_)
 refine g_nil <| d_then <| c_seq ?_
 refine c_cut (ι := Int) [1, 2, 4] (fun i4 => []) (fun i4 => ⟨w0, M, (100040, g2, .cells #[.int .i64 0, .int .i64 0, .int .i64 0, .int .i64 0, .int .i64 0, .int .i64 0, .int .i64 0, .slice none 0 0, .string (⟨#[]⟩ : ByteArray), .int .i64 0, .int .i64 0, .slice none 0 0, .slice none 0 0, .slice none 0 0] 84 (0, 0)) :: (100020, g1, .cells #[.int .i64 p0.fRaft.fMe, .int .i64 p0.fRaft.fRole, .int .i64 p0.fRaft.fLeader, .int .i64 p0.fRaft.fCommit, .int .i64 p0.fRaft.fLeft, .int .i64 p0.fRaft.fHard.fTerm, .int .i64 i4, .slice Ap0_0 p0.fRaft.fHard.fVoters.length cp0_0, .string p0.fRaft.fHard.fSnap, .int .i64 p0.fRaft.fHard.fLog.fBase, .int .i64 p0.fRaft.fHard.fLog.fBaseTerm, .slice Ap0_1 p0.fRaft.fHard.fLog.fEntries.length cp0_1, .slice Ap0_2 p0.fRaft.fVotes.length cp0_2, .slice Ap0_3 p0.fRaft.fMarks.length cp0_3] 84 (0, 0)) :: H, R, φ⟩) (fun i4 => m_raft_state_down_j1 p0 p1 i4 = some r) ?_ (fun i4 u hm => ?_)
 ·
  refine c_seq <| c_region <| g_v rfl (r_field (n := 0) Try.underlying84 rfl Try.sizeOf43 rfl rfl) <| g_v rfl (r_field (n := 5) Try.underlying43 rfl Try.sizeOf40 rfl rfl) <| g_v rfl (r_field (n := 5) Try.underlying40 rfl Try.sizeOf3 rfl rfl) <| g_v rfl (r_load (tag := 100020) rfl rfl rfl Try.isAgg3) <| g_v rfl r_move <| g_v rfl (r_neq rfl rfl) <| g_nil <| d_then ?_
  refine c_sta ⟨w0, M, (100040, g2, .cells #[.int .i64 0, .int .i64 0, .int .i64 0, .int .i64 0, .int .i64 0, .int .i64 0, .int .i64 0, .slice none 0 0, .string (⟨#[]⟩ : ByteArray), .int .i64 0, .int .i64 0, .slice none 0 0, .slice none 0 0, .slice none 0 0] 84 (0, 0)) :: (100020, g1, .cells #[.int .i64 p0.fRaft.fMe, .int .i64 p0.fRaft.fRole, .int .i64 p0.fRaft.fLeader, .int .i64 p0.fRaft.fCommit, .int .i64 p0.fRaft.fLeft, .int .i64 p0.fRaft.fHard.fTerm, .int .i64 p0.fRaft.fHard.fVote, .slice Ap0_0 p0.fRaft.fHard.fVoters.length cp0_0, .string p0.fRaft.fHard.fSnap, .int .i64 p0.fRaft.fHard.fLog.fBase, .int .i64 p0.fRaft.fHard.fLog.fBaseTerm, .slice Ap0_1 p0.fRaft.fHard.fLog.fEntries.length cp0_1, .slice Ap0_2 p0.fRaft.fVotes.length cp0_2, .slice Ap0_3 p0.fRaft.fMarks.length cp0_3] 84 (0, 0)) :: H, R, φ⟩ (fun _ h => h) ?_
  refine c_cond rfl (fun h5 => ?_) (fun h5 => ?_)
  ·
   replace hm := ite_t hm (of_decide_eq_true h5)
   refine c_region <| g_v rfl (r_field (n := 0) Try.underlying84 rfl Try.sizeOf43 rfl rfl) <| g_v rfl (r_field (n := 5) Try.underlying43 rfl Try.sizeOf40 rfl rfl) <| g_v rfl (r_field (n := 6) Try.underlying40 rfl Try.sizeOf3 rfl rfl) <| g_storeL (tag := 100020) rfl rfl rfl rfl Try.sizeOf3 rfl rfl <| g_nil ?_
   exact d_round 0 hm Nat.zero_lt_one ⟨rfl, rfl, rfl, trivial⟩ (fun W h => h.phi (fun W hφ => hφ))
  replace hm := ite_f hm (of_decide_eq_false h5)
  refine c_skip ?_
  exact d_round p0.fRaft.fHard.fVote hm Nat.zero_lt_one ⟨rfl, rfl, rfl, trivial⟩ (fun W h => h.phi (fun W hφ => hφ))
 unfold m_raft_state_down_j1 at hm
 refine d_flat [(1, .int .i64 p1), (2, .pointer (some ⟨g1, 0, none⟩)), (4, .pointer (some ⟨g2, 0, none⟩))] ⟨rfl, rfl, rfl, trivial⟩ (fun u => ?_)
 refine d_sta ⟨w0, M, (100040, g2, .cells #[.int .i64 0, .int .i64 0, .int .i64 0, .int .i64 0, .int .i64 0, .int .i64 0, .int .i64 0, .slice none 0 0, .string (⟨#[]⟩ : ByteArray), .int .i64 0, .int .i64 0, .slice none 0 0, .slice none 0 0, .slice none 0 0] 84 (0, 0)) :: (100020, g1, .cells #[.int .i64 p0.fRaft.fMe, .int .i64 p0.fRaft.fRole, .int .i64 p0.fRaft.fLeader, .int .i64 p0.fRaft.fCommit, .int .i64 p0.fRaft.fLeft, .int .i64 p0.fRaft.fHard.fTerm, .int .i64 i4, .slice Ap0_0 p0.fRaft.fHard.fVoters.length cp0_0, .string p0.fRaft.fHard.fSnap, .int .i64 p0.fRaft.fHard.fLog.fBase, .int .i64 p0.fRaft.fHard.fLog.fBaseTerm, .slice Ap0_1 p0.fRaft.fHard.fLog.fEntries.length cp0_1, .slice Ap0_2 p0.fRaft.fVotes.length cp0_2, .slice Ap0_3 p0.fRaft.fMarks.length cp0_3] 84 (0, 0)) :: H, R, φ⟩ (fun _ h => h) <| d_then <| c_seq <| c_region <| g_v rfl r_move <| g_v rfl (r_field (n := 0) Try.underlying84 rfl Try.sizeOf43 rfl rfl) <| g_v rfl (r_field (n := 5) Try.underlying43 rfl Try.sizeOf40 rfl rfl) <| g_v rfl (r_field (n := 5) Try.underlying40 rfl Try.sizeOf3 rfl rfl) <| g_storeL (tag := 100020) rfl rfl rfl rfl Try.sizeOf3 rfl rfl <| g_nil ?_
 refine d_then <| c_seq <| c_region <| g_v rfl (r_field (n := 0) Try.underlying84 rfl Try.sizeOf43 rfl rfl) <| g_v rfl (r_field (n := 1) Try.underlying43 rfl Try.sizeOf3 rfl rfl) <| g_storeL (tag := 100020) rfl rfl rfl rfl Try.sizeOf3 rfl rfl <| g_v rfl (r_field (n := 0) Try.underlying84 rfl Try.sizeOf43 rfl rfl) <| g_v rfl (r_field (n := 2) Try.underlying43 rfl Try.sizeOf3 rfl rfl) <| g_storeL (tag := 100020) rfl rfl rfl rfl Try.sizeOf3 rfl rfl <| g_v rfl (r_field (n := 0) Try.underlying84 rfl Try.sizeOf43 rfl rfl) ?_
 refine g_v rfl (r_field (n := 12) Try.underlying43 rfl Try.sizeOf23 rfl rfl) <| g_storeL (tag := 100020) rfl rfl rfl rfl Try.sizeOf23 rfl rfl <| g_v rfl (r_field (n := 0) Try.underlying84 rfl Try.sizeOf43 rfl rfl) <| g_v rfl (r_field (n := 13) Try.underlying43 rfl Try.sizeOf41 rfl rfl) <| g_storeL (tag := 100020) rfl rfl rfl rfl Try.sizeOf41 rfl rfl <| g_nil <| d_then ?_
 refine c_flat [(2, .pointer (some ⟨g1, 0, none⟩)), (4, .pointer (some ⟨g2, 0, none⟩))] ⟨rfl, rfl, trivial⟩ (fun u => ?_)
 refine c_sta ⟨w0, M, (100040, g2, .cells #[.int .i64 0, .int .i64 0, .int .i64 0, .int .i64 0, .int .i64 0, .int .i64 0, .int .i64 0, .slice none 0 0, .string (⟨#[]⟩ : ByteArray), .int .i64 0, .int .i64 0, .slice none 0 0, .slice none 0 0, .slice none 0 0] 84 (0, 0)) :: (100020, g1, .cells #[.int .i64 p0.fRaft.fMe, .int .i64 0, .int .i64 0, .int .i64 p0.fRaft.fCommit, .int .i64 p0.fRaft.fLeft, .int .i64 p1, .int .i64 i4, .slice Ap0_0 p0.fRaft.fHard.fVoters.length cp0_0, .string p0.fRaft.fHard.fSnap, .int .i64 p0.fRaft.fHard.fLog.fBase, .int .i64 p0.fRaft.fHard.fLog.fBaseTerm, .slice Ap0_1 p0.fRaft.fHard.fLog.fEntries.length cp0_1, .slice none 0 0, .slice none 0 0] 84 (0, 0)) :: H, R, φ⟩ (fun _ h => h) <| c_seq <| c_region <| g_v rfl (r_loadA (tag := 100020) rfl rfl Try.isAgg84 Try.sizeOf84 rfl rfl) <| g_storeL (tag := 100040) rfl rfl rfl rfl Try.sizeOf84 rfl rfl <| g_nil <| d_then <| c_ret ?_
 cases hm
 exact d_retC (Ap0_0, cp0_0, Ap0_1, cp0_1, none, 0, none, 0) Try.results37 (res_agg (tag := 100040) rfl rfl Try.isAgg84 Try.sizeOf84 (res_nil rfl)) ⟨hcp0_0, hcp0_1, (Nat.le_refl 0), (Nat.le_refl 0)⟩ (fun W h => ok_pre (H1 := [_, _]) (R1 := []) h (fun W hφ => ⟨hφ, (fun W h => fp0_0 W h) W hφ, (fun W h => fp0_1 W h) W hφ, (fun W _ => Cl.nil _ _) W hφ, (fun W _ => Cl.nil _ _) W hφ⟩)) (.inr rfl)
noncomputable def m_plog_Newer (p0 : GLog) (p1 : Int) (p2 : Int) : Option Bool :=
  (m_plog_Last p0).bind fun x14 =>
  (m_plog_Term p0 x14).bind fun (z19 : Int × Bool) =>
  if z19.1 < p2 then
    some true
  else
    if p2 = z19.1 then
      (m_plog_Last p0).bind fun x22 =>
      some (decide (x22 ≤ p1))
    else
      some false
theorem c_plog_Newer {w0 : World} {M : Nat → Prop} {H : List (Nat × Nat × Obj)} {R : List (Nat × Row)} {φ : World → Prop} (p0 : GLog) (Ap0_0 : Option Addr) (cp0_0 : Nat) (hcp0_0 : p0.fEntries.length ≤ cp0_0) (fp0_0 : ∀ W, (Sta.mk w0 M H R φ).ok W → Cl W Ap0_0 (p0.fEntries.flatMap GEntry.enc)) (p1 : Int) (p2 : Int) (r : Bool) (hm : m_plog_Newer p0 p1 p2 = some r) :
    Cn Try.prog 57 #[.agg #[.int .i64 p0.fBase, .int .i64 p0.fBaseTerm, .slice Ap0_0 p0.fEntries.length cp0_0], .int .i64 p1, .int .i64 p2] ⟨w0, M, H, R, φ⟩ (fun x : Unit => .bool r) (fun x => True) (fun x => ⟨w0, M, H, R, φ⟩) := by
 unfold m_plog_Newer at hm
 refine cn_intro (fn := Try.f57) (N := 30) Try.func57 rfl Try.ntmps57 rfl <| c_seq <| c_region ?_
 refine g_e rfl (e_box 100030 rfl) (fun g1 _ => ?_)
 refine g_v rfl r_assign <| g_nil <| d_then <| c_seq <| ga_start (n := 9) ⟨w0, M, (100030, g1, .cells #[.int .i64 p0.fBase, .int .i64 p0.fBaseTerm, .slice Ap0_0 p0.fEntries.length cp0_0] 38 (0, 0)) :: H, R, φ⟩ [] #[false, false, false, false, false, false, false, false, false] (fun W h => h.phi (fun W hφ => hφ)) mixed rfl rfl <| ga_v (i := 0) (bz 9 1) rfl (by kernel_rfl) (fun _ _ _ _ h => h) rfl (r_loadA (tag := 100030) rfl rfl Try.isAgg38 Try.sizeOf38 rfl rfl) <| ga_r (i := 1) (bz 9 3) rfl (by kernel_rfl) (by decide) rfl (r_loadA (tag := 100030) rfl rfl Try.isAgg38 Try.sizeOf38 rfl rfl) ?_
 replace hm := bnd hm
 obtain ⟨x14, hx15, hm⟩ := hm
 refine ga_cn (first := #[]) (i := 2) (bz 9 7) rfl (by kernel_rfl) (by decide)  ⟨w0, M, _, _, φ⟩ (fun _ h => h) Try.call21 rfl rfl rfl (c_plog_Last p0 Ap0_0 cp0_0 hcp0_0 (fun W hS => fp0_0 W (ok_pre (H1 := [_]) (R1 := []) hS (fun W h => h))) _ hx15) (fun _ W _ h => h.phi (fun W hφ => hφ)) (fun _ _ => ?_)
 replace hm := bnd hm
 obtain ⟨⟨x16, x17⟩, hx18, hm⟩ := hm
 refine ga_cn (first := #[]) (i := 3) (bz 9 15) rfl (by kernel_rfl) (by decide)  ⟨w0, M, _, _, φ⟩ (fun _ h => h) Try.call67 rfl rfl rfl (c_plog_Term p0 Ap0_0 cp0_0 hcp0_0 (fun W hS => fp0_0 W (ok_pre (H1 := [_]) (R1 := []) hS (fun W h => h))) x14 _ hx18) (fun _ W _ h => h.phi (fun W hφ => hφ)) (fun _ _ => ?_)
 refine ga_r (i := 4) (bz 9 31) rfl (by kernel_rfl) (by decide) rfl (r_move) <| ga_v (i := 5) (bz 9 63) rfl (by kernel_rfl) (fun _ _ _ _ h => h) rfl (r_extract rfl rfl) <| ga_v (i := 6) (bz 9 127) rfl (by kernel_rfl) (fun _ _ _ _ h => h) rfl (r_extract rfl rfl) <| ga_r (i := 7) (bz 9 255) rfl (by kernel_rfl) (by decide) rfl (r_assign) <| ga_r (i := 8) (bz 9 511) rfl (by kernel_rfl) (by decide) rfl (r_assign) <| ga_done (by kernel_rfl) <| d_then ?_
 refine c_flat [(1, .int .i64 p1), (2, .int .i64 p2), (3, .pointer (some ⟨g1, 0, none⟩)), (7, .int .i64 x16)] ⟨rfl, rfl, rfl, rfl, trivial⟩ (fun u => ?_)
 refine c_sta ⟨w0, M, (100030, g1, .cells #[.int .i64 p0.fBase, .int .i64 p0.fBaseTerm, .slice Ap0_0 p0.fEntries.length cp0_0] 38 (0, 0)) :: H, R, φ⟩ (fun _ h => h) <| c_seq <| c_region <| g_v rfl r_move <| g_v rfl r_move <| g_v rfl (r_gtr rfl rfl) <| g_v rfl r_move ?_
 refine g_if rfl rfl rfl rfl rfl (fun h20 => ?_) (fun h20 => ?_)
 ·
  replace hm := ite_f hm (of_decide_eq_false h20)
  refine g_v rfl r_move <| g_do rfl rfl rfl rfl rfl h20 <| g_v rfl r_move <| g_do rfl rfl rfl rfl rfl h20 <| g_v rfl (r_eql rfl rfl) <| g_do rfl rfl rfl rfl rfl h20 <| g_v rfl r_move ?_
  refine g_if rfl rfl rfl rfl rfl (fun h21 => ?_) (fun h21 => ?_)
  ·
   replace hm := ite_t hm (of_decide_eq_true h21)
   refine g_v rfl r_move <| g_do rfl rfl rfl rfl rfl h21 <| g_v rfl (r_loadA (tag := 100030) rfl rfl Try.isAgg38 Try.sizeOf38 rfl rfl) <| g_do rfl rfl rfl rfl rfl h21 ?_
   replace hm := bnd hm
   obtain ⟨x22, hx23, hm⟩ := hm
   refine g_cn ⟨w0, M, _, _, φ⟩ (fun _ h => h) Try.call21 rfl rfl (c_plog_Last p0 Ap0_0 cp0_0 hcp0_0 (fun W hS => fp0_0 W (ok_pre (H1 := [_]) (R1 := []) hS (fun W h => h))) _ hx23) (fun _ _ => ?_)
   refine g_do rfl rfl rfl rfl rfl h21 <| g_v rfl (r_geq rfl rfl) <| g_do rfl rfl rfl rfl rfl h20 <| g_v rfl (r_pick1 rfl h21) <| g_v rfl (r_pick0 rfl h20) <| g_v rfl r_assign <| g_nil <| d_then ?_
   refine c_flat [(6, .bool (decide (x22 ≤ p1)))] ⟨rfl, trivial⟩ (fun u => ?_)
   refine c_ret ?_
   cases hm
   exact d_retC () Try.results57 (res_tmp (res_nil rfl)) trivial (fun W h => ok_pre (H1 := [_]) (R1 := []) h (fun W hφ => hφ)) (.inr rfl)
  replace hm := ite_f hm (of_decide_eq_false h21)
  iterate 3 refine g_no rfl rfl rfl rfl rfl h21 ?_
  refine g_do rfl rfl rfl rfl rfl h20 <| g_v rfl (r_pick0 rfl h21) <| g_v rfl (r_pick0 rfl h20) <| g_v rfl r_assign <| g_nil <| d_then ?_
  refine c_flat [(6, .bool false)] ⟨rfl, trivial⟩ (fun u => ?_)
  refine c_ret ?_
  cases hm
  exact d_retC () Try.results57 (res_tmp (res_nil rfl)) trivial (fun W h => ok_pre (H1 := [_]) (R1 := []) h (fun W hφ => hφ)) (.inr rfl)
 replace hm := ite_t hm (of_decide_eq_true h20)
 iterate 3 refine g_no rfl rfl rfl rfl rfl h20 ?_
 iterate 4 refine g_nu rfl rfl rfl rfl rfl ?_
 refine g_no rfl rfl rfl rfl rfl h20 <| g_v rfl (r_pick1 rfl h20) <| g_v rfl r_assign <| g_nil <| d_then <| c_ret ?_
 cases hm
 exact d_retC () Try.results57 (res_tmp (res_nil rfl)) trivial (fun W h => ok_pre (H1 := [_]) (R1 := []) h (fun W hφ => hφ)) (.inr rfl)
noncomputable def m_raft_state_answers (p0 : Graft_state) (p1 : GNote) (p2 : Int) (p3 : Int) (p4 : Bool) : Option (List GNote) :=
  (m_raft_state_note p0 p2 p1.fFrom).bind fun x3 =>
  some [(⟨x3.fKind, x3.fFrom, x3.fTo, x3.fTerm, p3, x3.fLogTerm, x3.fCommit, p4, x3.fEntries, x3.fVoters, x3.fSnap⟩ : GNote)]
theorem c_raft_state_answers {w0 : World} {M : Nat → Prop} {H : List (Nat × Nat × Obj)} {R : List (Nat × Row)} {φ : World → Prop} (p0 : Graft_state) (Ap0_0 : Option Addr) (cp0_0 : Nat) (hcp0_0 : p0.fRaft.fHard.fVoters.length ≤ cp0_0) (fp0_0 : ∀ W, (Sta.mk w0 M H R φ).ok W → Cl W Ap0_0 (p0.fRaft.fHard.fVoters.flatMap (fun x : Int => [Value.int .i64 x]))) (Ap0_1 : Option Addr) (cp0_1 : Nat) (hcp0_1 : p0.fRaft.fHard.fLog.fEntries.length ≤ cp0_1) (fp0_1 : ∀ W, (Sta.mk w0 M H R φ).ok W → Cl W Ap0_1 (p0.fRaft.fHard.fLog.fEntries.flatMap GEntry.enc)) (Ap0_2 : Option Addr) (cp0_2 : Nat) (hcp0_2 : p0.fRaft.fVotes.length ≤ cp0_2) (fp0_2 : ∀ W, (Sta.mk w0 M H R φ).ok W → Cl W Ap0_2 (p0.fRaft.fVotes.flatMap (fun x : Int => [Value.int .i64 x]))) (Ap0_3 : Option Addr) (cp0_3 : Nat) (hcp0_3 : p0.fRaft.fMarks.length ≤ cp0_3) (fp0_3 : ∀ W, (Sta.mk w0 M H R φ).ok W → Cl W Ap0_3 (p0.fRaft.fMarks.flatMap GMark.enc)) (p1 : GNote) (Ap1_0 : Option Addr) (cp1_0 : Nat) (hcp1_0 : p1.fEntries.length ≤ cp1_0) (fp1_0 : ∀ W, (Sta.mk w0 M H R φ).ok W → Cl W Ap1_0 (p1.fEntries.flatMap GEntry.enc)) (Ap1_1 : Option Addr) (cp1_1 : Nat) (hcp1_1 : p1.fVoters.length ≤ cp1_1) (fp1_1 : ∀ W, (Sta.mk w0 M H R φ).ok W → Cl W Ap1_1 (p1.fVoters.flatMap (fun x : Int => [Value.int .i64 x]))) (p2 : Int) (p3 : Int) (p4 : Bool) (r : (List GNote)) (hm : m_raft_state_answers p0 p1 p2 p3 p4 = some r) :
    Cn Try.prog 58 #[.agg #[.int .i64 p0.fRaft.fMe, .int .i64 p0.fRaft.fRole, .int .i64 p0.fRaft.fLeader, .int .i64 p0.fRaft.fCommit, .int .i64 p0.fRaft.fLeft, .int .i64 p0.fRaft.fHard.fTerm, .int .i64 p0.fRaft.fHard.fVote, .slice Ap0_0 p0.fRaft.fHard.fVoters.length cp0_0, .string p0.fRaft.fHard.fSnap, .int .i64 p0.fRaft.fHard.fLog.fBase, .int .i64 p0.fRaft.fHard.fLog.fBaseTerm, .slice Ap0_1 p0.fRaft.fHard.fLog.fEntries.length cp0_1, .slice Ap0_2 p0.fRaft.fVotes.length cp0_2, .slice Ap0_3 p0.fRaft.fMarks.length cp0_3], .agg #[.int .i64 p1.fKind, .int .i64 p1.fFrom, .int .i64 p1.fTo, .int .i64 p1.fTerm, .int .i64 p1.fIndex, .int .i64 p1.fLogTerm, .int .i64 p1.fCommit, .bool p1.fGood, .slice Ap1_0 p1.fEntries.length cp1_0, .slice Ap1_1 p1.fVoters.length cp1_1, .string p1.fSnap], .int .i64 p2, .int .i64 p3, .bool p4] ⟨w0, M, H, R, φ⟩ (fun x : Option Addr × Nat × List GNoteP => .slice x.1 r.length x.2.1) (fun x => (DOk GNote.capP r x.2.2 ∧ r.length ≤ x.2.1)) (fun x => ⟨w0, M, H, (2000, ⟨.slice x.1 r.length x.2.1, 25, 11, r.length, (r.zip x.2.2).flatMap GNote.encP⟩) :: R, fun W => φ W ∧ DOwn GNote.ownP r x.2.2 W⟩) := by
 unfold m_raft_state_answers at hm
 refine cn_intro (fn := Try.f58) (N := 23) Try.func58 rfl Try.ntmps58 rfl <| c_seq <| c_region ?_
 refine g_e rfl (e_box 100050 rfl) (fun g1 _ => ?_)
 refine g_e rfl (e_box 100060 rfl) (fun g2 _ => ?_)
 refine g_v rfl r_assign <| g_nil <| d_then <| c_seq <| c_region <| g_v rfl (r_loadA (tag := 100050) rfl rfl Try.isAgg84 Try.sizeOf84 rfl rfl) <| g_v rfl r_move <| g_v rfl (r_field (n := 1) Try.underlying25 rfl Try.sizeOf3 rfl rfl) <| g_v rfl (r_load (tag := 100060) rfl rfl rfl Try.isAgg3) ?_
 replace hm := bnd hm
 obtain ⟨x3, hx4, hm⟩ := hm
 refine g_cn ⟨w0, M, _, _, φ⟩ (fun _ h => h) Try.call65 rfl rfl (c_raft_state_note p0 Ap0_0 cp0_0 hcp0_0 (fun W hS => fp0_0 W (ok_pre (H1 := [_, _]) (R1 := []) hS (fun W h => h))) Ap0_1 cp0_1 hcp0_1 (fun W hS => fp0_1 W (ok_pre (H1 := [_, _]) (R1 := []) hS (fun W h => h))) Ap0_2 cp0_2 hcp0_2 (fun W hS => fp0_2 W (ok_pre (H1 := [_, _]) (R1 := []) hS (fun W h => h))) Ap0_3 cp0_3 hcp0_3 (fun W hS => fp0_3 W (ok_pre (H1 := [_, _]) (R1 := []) hS (fun W h => h))) p2 p1.fFrom _ hx4) (fun ⟨A5, c6, A8, c9⟩ ⟨hc6, hc9⟩ => ?_)
 refine g_abs (fun φ11 q11' => ?_)
 have q11 : ∀ W, φ11 W → φ W := fun W h => (q11' W h).1
 have f7 := fun (W : World) (h : φ11 W) => (q11' W h).2.1
 have f10 := fun (W : World) (h : φ11 W) => (q11' W h).2.2
 refine g_e rfl (e_alloc 100110 Try.zeroValue25) (fun g12 _ => ?_)
 refine g_storeL (tag := 100110) rfl rfl rfl rfl Try.sizeOf25 rfl rfl <| g_nil <| d_then ?_
 refine c_flat [(3, .int .i64 p3), (4, .bool p4), (11, .pointer (some ⟨g12, 0, none⟩))] ⟨rfl, rfl, rfl, trivial⟩ (fun u => ?_)
 refine c_sta ⟨w0, M, (100110, g12, .cells #[.int .i64 x3.fKind, .int .i64 x3.fFrom, .int .i64 x3.fTo, .int .i64 x3.fTerm, .int .i64 x3.fIndex, .int .i64 x3.fLogTerm, .int .i64 x3.fCommit, .bool x3.fGood, .slice A5 x3.fEntries.length c6, .slice A8 x3.fVoters.length c9, .string x3.fSnap] 25 (0, 0)) :: (100060, g2, .cells #[.int .i64 p1.fKind, .int .i64 p1.fFrom, .int .i64 p1.fTo, .int .i64 p1.fTerm, .int .i64 p1.fIndex, .int .i64 p1.fLogTerm, .int .i64 p1.fCommit, .bool p1.fGood, .slice Ap1_0 p1.fEntries.length cp1_0, .slice Ap1_1 p1.fVoters.length cp1_1, .string p1.fSnap] 25 (0, 0)) :: (100050, g1, .cells #[.int .i64 p0.fRaft.fMe, .int .i64 p0.fRaft.fRole, .int .i64 p0.fRaft.fLeader, .int .i64 p0.fRaft.fCommit, .int .i64 p0.fRaft.fLeft, .int .i64 p0.fRaft.fHard.fTerm, .int .i64 p0.fRaft.fHard.fVote, .slice Ap0_0 p0.fRaft.fHard.fVoters.length cp0_0, .string p0.fRaft.fHard.fSnap, .int .i64 p0.fRaft.fHard.fLog.fBase, .int .i64 p0.fRaft.fHard.fLog.fBaseTerm, .slice Ap0_1 p0.fRaft.fHard.fLog.fEntries.length cp0_1, .slice Ap0_2 p0.fRaft.fVotes.length cp0_2, .slice Ap0_3 p0.fRaft.fMarks.length cp0_3] 84 (0, 0)) :: H, R, φ11⟩ (fun _ h => h) <| c_seq <| c_region <| g_v rfl r_move <| g_v rfl r_move <| g_v rfl (r_field (n := 4) Try.underlying25 rfl Try.sizeOf3 rfl rfl) <| g_storeL (tag := 100110) rfl rfl rfl rfl Try.sizeOf3 rfl rfl <| g_v rfl (r_field (n := 7) Try.underlying25 rfl Try.sizeOf4 rfl rfl) <| g_storeL (tag := 100110) rfl rfl rfl rfl Try.sizeOf4 rfl rfl <| g_nil ?_
 refine d_then <| c_seq <| c_region <| g_v rfl (r_loadA (tag := 100110) rfl rfl Try.isAgg25 Try.sizeOf25 rfl rfl) ?_
 have hk14 := (DOk.cons (cap := GNote.capP) (x := (⟨x3.fKind, x3.fFrom, x3.fTo, x3.fTerm, p3, x3.fLogTerm, x3.fCommit, p4, x3.fEntries, x3.fVoters, x3.fSnap⟩ : GNote)) (p := (⟨A5, c6, A8, c9⟩ : GNoteP)) (⟨hc6, hc9⟩) DOk.nil)
 have f15 := fun (W : World) (h : φ11 W) => (DOwn.cons (own := GNote.ownP) (x := (⟨x3.fKind, x3.fFrom, x3.fTo, x3.fTerm, p3, x3.fLogTerm, x3.fCommit, p4, x3.fEntries, x3.fVoters, x3.fSnap⟩ : GNote)) (p := (⟨A5, c6, A8, c9⟩ : GNoteP)) (⟨f7 W h, f10 W h⟩) DOwn.nil)
 refine g_e rfl (e_litD (tag := 100220) (enc := GNote.encP) (sz := 11) hk14 rfl Try.underlying48 (lit25_8 _ _ _ _ _ _ _ _ _ _ _ _ _ _ _) rfl rfl (fun _ => rfl)) (fun g13 _ => ?_)
 refine g_v rfl r_assign <| g_nil <| d_then ?_
 refine c_flat [(10, .slice (some ⟨g13, 0, none⟩) [(⟨x3.fKind, x3.fFrom, x3.fTo, x3.fTerm, p3, x3.fLogTerm, x3.fCommit, p4, x3.fEntries, x3.fVoters, x3.fSnap⟩ : GNote)].length 1)] ⟨rfl, trivial⟩ (fun u => ?_)
 refine c_sta ⟨w0, M, (100110, g12, .cells #[.int .i64 x3.fKind, .int .i64 x3.fFrom, .int .i64 x3.fTo, .int .i64 x3.fTerm, .int .i64 p3, .int .i64 x3.fLogTerm, .int .i64 x3.fCommit, .bool p4, .slice A5 x3.fEntries.length c6, .slice A8 x3.fVoters.length c9, .string x3.fSnap] 25 (0, 0)) :: (100060, g2, .cells #[.int .i64 p1.fKind, .int .i64 p1.fFrom, .int .i64 p1.fTo, .int .i64 p1.fTerm, .int .i64 p1.fIndex, .int .i64 p1.fLogTerm, .int .i64 p1.fCommit, .bool p1.fGood, .slice Ap1_0 p1.fEntries.length cp1_0, .slice Ap1_1 p1.fVoters.length cp1_1, .string p1.fSnap] 25 (0, 0)) :: (100050, g1, .cells #[.int .i64 p0.fRaft.fMe, .int .i64 p0.fRaft.fRole, .int .i64 p0.fRaft.fLeader, .int .i64 p0.fRaft.fCommit, .int .i64 p0.fRaft.fLeft, .int .i64 p0.fRaft.fHard.fTerm, .int .i64 p0.fRaft.fHard.fVote, .slice Ap0_0 p0.fRaft.fHard.fVoters.length cp0_0, .string p0.fRaft.fHard.fSnap, .int .i64 p0.fRaft.fHard.fLog.fBase, .int .i64 p0.fRaft.fHard.fLog.fBaseTerm, .slice Ap0_1 p0.fRaft.fHard.fLog.fEntries.length cp0_1, .slice Ap0_2 p0.fRaft.fVotes.length cp0_2, .slice Ap0_3 p0.fRaft.fMarks.length cp0_3] 84 (0, 0)) :: H, (100220, ⟨.slice (some ⟨g13, 0, none⟩) [(⟨x3.fKind, x3.fFrom, x3.fTo, x3.fTerm, p3, x3.fLogTerm, x3.fCommit, p4, x3.fEntries, x3.fVoters, x3.fSnap⟩ : GNote)].length 1, 25, 11, [(⟨x3.fKind, x3.fFrom, x3.fTo, x3.fTerm, p3, x3.fLogTerm, x3.fCommit, p4, x3.fEntries, x3.fVoters, x3.fSnap⟩ : GNote)].length, ([(⟨x3.fKind, x3.fFrom, x3.fTo, x3.fTerm, p3, x3.fLogTerm, x3.fCommit, p4, x3.fEntries, x3.fVoters, x3.fSnap⟩ : GNote)].zip [(⟨A5, c6, A8, c9⟩ : GNoteP)]).flatMap GNote.encP⟩) :: R, φ11⟩ (fun _ h => h) <| c_ret ?_
 cases hm
 refine d_sta _ (fun W h => ok_frontR (t := 100220) (t' := 2000) h rfl) ?_
 exact d_retC (some ⟨g13, 0, none⟩, 1, [(⟨A5, c6, A8, c9⟩ : GNoteP)]) Try.results58 (res_tmp (res_nil rfl)) ⟨hk14, (Nat.le_refl _)⟩ (fun W h => (((h.dropH (t := 100110) rfl).dropH (t := 100060) rfl).dropH (t := 100050) rfl).phi (fun W hφ => ⟨(q11 _ hφ), (fun W h => (f15 W h)) W hφ⟩)) (.inr rfl)
noncomputable def m_raft_state_voted (p0 : Graft_state) (p1 : Int) : Option (Graft_state × (List GNote)) :=
  (m_slices_Clone_75 p0.fRaft.fVotes).bind fun x3 =>
  (app 8 x3 [p1]).bind fun l9 =>
  (m_slices_Sort_78 l9).bind fun x12 =>
  (m_slices_Compact_79 x12).bind fun x15 =>
  (m_raft_state_voters (⟨(⟨p0.fRaft.fMe, p0.fRaft.fRole, p0.fRaft.fLeader, p0.fRaft.fCommit, p0.fRaft.fLeft, p0.fRaft.fHard, x15, p0.fRaft.fMarks⟩ : GRaft)⟩ : Graft_state)).bind fun x34 =>
  (m_raft_Majority x34 x15).bind fun x39 =>
  if x39 = true then
    (m_raft_state_leads (⟨(⟨p0.fRaft.fMe, p0.fRaft.fRole, p0.fRaft.fLeader, p0.fRaft.fCommit, p0.fRaft.fLeft, p0.fRaft.fHard, x15, p0.fRaft.fMarks⟩ : GRaft)⟩ : Graft_state)).bind fun (z63 : Graft_state × (List GNote)) =>
    some (z63.1, z63.2)
  else
    some ((⟨(⟨p0.fRaft.fMe, p0.fRaft.fRole, p0.fRaft.fLeader, p0.fRaft.fCommit, p0.fRaft.fLeft, p0.fRaft.fHard, x15, p0.fRaft.fMarks⟩ : GRaft)⟩ : Graft_state), ([] : List GNote))
theorem c_raft_state_voted {w0 : World} {M : Nat → Prop} {H : List (Nat × Nat × Obj)} {R : List (Nat × Row)} {φ : World → Prop} (p0 : Graft_state) (Ap0_0 : Option Addr) (cp0_0 : Nat) (hcp0_0 : p0.fRaft.fHard.fVoters.length ≤ cp0_0) (fp0_0 : ∀ W, φ W → Cl W Ap0_0 (p0.fRaft.fHard.fVoters.flatMap (fun x : Int => [Value.int .i64 x]))) (Ap0_1 : Option Addr) (cp0_1 : Nat) (hcp0_1 : p0.fRaft.fHard.fLog.fEntries.length ≤ cp0_1) (fp0_1 : ∀ W, φ W → Cl W Ap0_1 (p0.fRaft.fHard.fLog.fEntries.flatMap GEntry.enc)) (Ap0_2 : Option Addr) (cp0_2 : Nat) (hcp0_2 : p0.fRaft.fVotes.length ≤ cp0_2) (fp0_2 : ∀ W, (Sta.mk w0 M H R φ).ok W → Cl W Ap0_2 (p0.fRaft.fVotes.flatMap (fun x : Int => [Value.int .i64 x]))) (Ap0_3 : Option Addr) (cp0_3 : Nat) (hcp0_3 : p0.fRaft.fMarks.length ≤ cp0_3) (fp0_3 : ∀ W, φ W → Cl W Ap0_3 (p0.fRaft.fMarks.flatMap GMark.enc)) (p1 : Int) (r : Graft_state × (List GNote)) (hm : m_raft_state_voted p0 p1 = some r) :
    Cn Try.prog 59 #[.agg #[.int .i64 p0.fRaft.fMe, .int .i64 p0.fRaft.fRole, .int .i64 p0.fRaft.fLeader, .int .i64 p0.fRaft.fCommit, .int .i64 p0.fRaft.fLeft, .int .i64 p0.fRaft.fHard.fTerm, .int .i64 p0.fRaft.fHard.fVote, .slice Ap0_0 p0.fRaft.fHard.fVoters.length cp0_0, .string p0.fRaft.fHard.fSnap, .int .i64 p0.fRaft.fHard.fLog.fBase, .int .i64 p0.fRaft.fHard.fLog.fBaseTerm, .slice Ap0_1 p0.fRaft.fHard.fLog.fEntries.length cp0_1, .slice Ap0_2 p0.fRaft.fVotes.length cp0_2, .slice Ap0_3 p0.fRaft.fMarks.length cp0_3], .int .i64 p1] ⟨w0, M, H, R, φ⟩ (fun x : Option Addr × Nat × Option Addr × Nat × Option Addr × Nat × Option Addr × Nat × Option Addr × Nat × List GNoteP => .tuple #[.agg #[.int .i64 r.1.fRaft.fMe, .int .i64 r.1.fRaft.fRole, .int .i64 r.1.fRaft.fLeader, .int .i64 r.1.fRaft.fCommit, .int .i64 r.1.fRaft.fLeft, .int .i64 r.1.fRaft.fHard.fTerm, .int .i64 r.1.fRaft.fHard.fVote, .slice x.1 r.1.fRaft.fHard.fVoters.length x.2.1, .string r.1.fRaft.fHard.fSnap, .int .i64 r.1.fRaft.fHard.fLog.fBase, .int .i64 r.1.fRaft.fHard.fLog.fBaseTerm, .slice x.2.2.1 r.1.fRaft.fHard.fLog.fEntries.length x.2.2.2.1, .slice x.2.2.2.2.1 r.1.fRaft.fVotes.length x.2.2.2.2.2.1, .slice x.2.2.2.2.2.2.1 r.1.fRaft.fMarks.length x.2.2.2.2.2.2.2.1], .slice x.2.2.2.2.2.2.2.2.1 r.2.length x.2.2.2.2.2.2.2.2.2.1]) (fun x => r.1.fRaft.fHard.fVoters.length ≤ x.2.1 ∧ r.1.fRaft.fHard.fLog.fEntries.length ≤ x.2.2.2.1 ∧ r.1.fRaft.fVotes.length ≤ x.2.2.2.2.2.1 ∧ r.1.fRaft.fMarks.length ≤ x.2.2.2.2.2.2.2.1 ∧ (DOk GNote.capP r.2 x.2.2.2.2.2.2.2.2.2.2 ∧ r.2.length ≤ x.2.2.2.2.2.2.2.2.2.1)) (fun x => ⟨w0, M, H, (2004, ⟨.slice x.2.2.2.2.2.2.2.2.1 r.2.length x.2.2.2.2.2.2.2.2.2.1, 25, 11, r.2.length, (r.2.zip x.2.2.2.2.2.2.2.2.2.2).flatMap GNote.encP⟩) :: R, fun W => φ W ∧ Cl W x.1 (r.1.fRaft.fHard.fVoters.flatMap (fun x : Int => [Value.int .i64 x])) ∧ Cl W x.2.2.1 (r.1.fRaft.fHard.fLog.fEntries.flatMap GEntry.enc) ∧ Cl W x.2.2.2.2.1 (r.1.fRaft.fVotes.flatMap (fun x : Int => [Value.int .i64 x])) ∧ Cl W x.2.2.2.2.2.2.1 (r.1.fRaft.fMarks.flatMap GMark.enc) ∧ DOwn GNote.ownP r.2 x.2.2.2.2.2.2.2.2.2.2 W⟩) := by
 unfold m_raft_state_voted at hm
 refine cn_intro (fn := Try.f59) (N := 31) Try.func59 rfl Try.ntmps59 rfl <| c_seq <| c_region ?_
 refine g_e rfl (e_box 100020 rfl) (fun g1 _ => ?_)
 refine g_e rfl (e_alloc 100040 Try.zeroValue84) (fun g2 _ => ?_)
 refine g_v rfl r_assign <| g_nil <| d_then <| c_seq <| c_region <| g_v rfl (r_field (n := 0) Try.underlying84 rfl Try.sizeOf43 rfl rfl) <| g_v rfl (r_field (n := 12) Try.underlying43 rfl Try.sizeOf23 rfl rfl) <| g_v rfl (r_load (tag := 100020) rfl rfl rfl Try.isAgg23) ?_
 replace hm := bnd hm
 obtain ⟨x3, hx4, hm⟩ := hm
 refine g_cn ⟨w0, M, _, _, φ⟩ (fun _ h => h) Try.call75 rfl rfl (c_slices_Clone_75 p0.fRaft.fVotes Ap0_2 cp0_2 hcp0_2 (fun W hS => fp0_2 W (ok_pre (H1 := [_, _]) (R1 := []) hS (fun W h => h))) _ hx4) (fun ⟨A5, c6⟩ hc6 => ?_)
 refine g_sta _ (fun W h => (ok_frontR (t := 2000) (t' := 100100) h rfl)) <| g_v rfl r_move ?_
 refine g_e rfl (e_lit (tag := 100120) (l := [p1]) (enc := (fun x : Int => [Value.int .i64 x])) (sz := 1) rfl Try.underlying23 (lit3_0 _) rfl rfl (fun _ => rfl)) (fun g8 _ => ?_)
 replace hm := bnd hm
 obtain ⟨l9, hl9, hm⟩ := hm
 refine g_e rfl (e_appR (enc := (fun x : Int => [Value.int .i64 x])) (l := x3) (l1 := [p1]) (l2 := l9) (tag := 100100) Try.underlying23 inf3_10 rfl (by decide) (by decide) (fun _ => rfl) (fun _ => rfl) rfl hc6 rfl rfl (fun W hS => rowCl (tag := 100120) rfl W hS) hl9) (fun ⟨A10, c11⟩ hc11 => ?_)
 refine g_v rfl r_assign <| g_nil <| d_then ?_
 refine c_flat [(2, .pointer (some ⟨g1, 0, none⟩)), (4, .pointer (some ⟨g2, 0, none⟩)), (6, .slice A10 l9.length c11)] ⟨rfl, rfl, rfl, trivial⟩ (fun u => ?_)
 refine c_sta ⟨w0, M, (100040, g2, .cells #[.int .i64 0, .int .i64 0, .int .i64 0, .int .i64 0, .int .i64 0, .int .i64 0, .int .i64 0, .slice none 0 0, .string (⟨#[]⟩ : ByteArray), .int .i64 0, .int .i64 0, .slice none 0 0, .slice none 0 0, .slice none 0 0] 84 (0, 0)) :: (100020, g1, .cells #[.int .i64 p0.fRaft.fMe, .int .i64 p0.fRaft.fRole, .int .i64 p0.fRaft.fLeader, .int .i64 p0.fRaft.fCommit, .int .i64 p0.fRaft.fLeft, .int .i64 p0.fRaft.fHard.fTerm, .int .i64 p0.fRaft.fHard.fVote, .slice Ap0_0 p0.fRaft.fHard.fVoters.length cp0_0, .string p0.fRaft.fHard.fSnap, .int .i64 p0.fRaft.fHard.fLog.fBase, .int .i64 p0.fRaft.fHard.fLog.fBaseTerm, .slice Ap0_1 p0.fRaft.fHard.fLog.fEntries.length cp0_1, .slice Ap0_2 p0.fRaft.fVotes.length cp0_2, .slice Ap0_3 p0.fRaft.fMarks.length cp0_3] 84 (0, 0)) :: H, (100120, ⟨.slice (some ⟨g8, 0, none⟩) [p1].length 1, 3, 1, [p1].length, [p1].flatMap (fun x : Int => [Value.int .i64 x])⟩) :: (100100, ⟨.slice A10 l9.length c11, 3, 1, l9.length, l9.flatMap (fun x : Int => [Value.int .i64 x])⟩) :: R, φ⟩ (fun _ h => h) <| c_seq <| c_region <| g_v rfl r_move ?_
 replace hm := bnd hm
 obtain ⟨x12, hx13, hm⟩ := hm
 refine g_cn ⟨w0, M, (100040, g2, .cells #[.int .i64 0, .int .i64 0, .int .i64 0, .int .i64 0, .int .i64 0, .int .i64 0, .int .i64 0, .slice none 0 0, .string (⟨#[]⟩ : ByteArray), .int .i64 0, .int .i64 0, .slice none 0 0, .slice none 0 0, .slice none 0 0] 84 (0, 0)) :: (100020, g1, .cells #[.int .i64 p0.fRaft.fMe, .int .i64 p0.fRaft.fRole, .int .i64 p0.fRaft.fLeader, .int .i64 p0.fRaft.fCommit, .int .i64 p0.fRaft.fLeft, .int .i64 p0.fRaft.fHard.fTerm, .int .i64 p0.fRaft.fHard.fVote, .slice Ap0_0 p0.fRaft.fHard.fVoters.length cp0_0, .string p0.fRaft.fHard.fSnap, .int .i64 p0.fRaft.fHard.fLog.fBase, .int .i64 p0.fRaft.fHard.fLog.fBaseTerm, .slice Ap0_1 p0.fRaft.fHard.fLog.fEntries.length cp0_1, .slice Ap0_2 p0.fRaft.fVotes.length cp0_2, .slice Ap0_3 p0.fRaft.fMarks.length cp0_3] 84 (0, 0)) :: H, (1000, ⟨.slice A10 l9.length c11, 3, 1, l9.length, l9.flatMap (fun x : Int => [Value.int .i64 x])⟩) :: (100120, ⟨.slice (some ⟨g8, 0, none⟩) [p1].length 1, 3, 1, [p1].length, [p1].flatMap (fun x : Int => [Value.int .i64 x])⟩) :: R, φ⟩ (fun W h => (ok_frontR (t := 100100) (t' := 1000) h rfl)) Try.call78 rfl rfl (c_slices_Sort_78 l9 A10 c11 hc11 _ hx13) (fun _ hp14 => ?_)
 refine g_sta _ (fun W h => (ok_frontR (t := 1000) (t' := 100100) h rfl)) ?_
 rw [show l9.length = x12.length from hp14.symm]
 refine g_nil <| d_then <| c_seq <| c_region <| g_v rfl r_move ?_
 replace hm := bnd hm
 obtain ⟨x15, hx16, hm⟩ := hm
 refine g_cn ⟨w0, M, (100040, g2, .cells #[.int .i64 0, .int .i64 0, .int .i64 0, .int .i64 0, .int .i64 0, .int .i64 0, .int .i64 0, .slice none 0 0, .string (⟨#[]⟩ : ByteArray), .int .i64 0, .int .i64 0, .slice none 0 0, .slice none 0 0, .slice none 0 0] 84 (0, 0)) :: (100020, g1, .cells #[.int .i64 p0.fRaft.fMe, .int .i64 p0.fRaft.fRole, .int .i64 p0.fRaft.fLeader, .int .i64 p0.fRaft.fCommit, .int .i64 p0.fRaft.fLeft, .int .i64 p0.fRaft.fHard.fTerm, .int .i64 p0.fRaft.fHard.fVote, .slice Ap0_0 p0.fRaft.fHard.fVoters.length cp0_0, .string p0.fRaft.fHard.fSnap, .int .i64 p0.fRaft.fHard.fLog.fBase, .int .i64 p0.fRaft.fHard.fLog.fBaseTerm, .slice Ap0_1 p0.fRaft.fHard.fLog.fEntries.length cp0_1, .slice Ap0_2 p0.fRaft.fVotes.length cp0_2, .slice Ap0_3 p0.fRaft.fMarks.length cp0_3] 84 (0, 0)) :: H, (1000, ⟨.slice A10 x12.length c11, 3, 1, x12.length, x12.flatMap (fun x : Int => [Value.int .i64 x])⟩) :: (100120, ⟨.slice (some ⟨g8, 0, none⟩) [p1].length 1, 3, 1, [p1].length, [p1].flatMap (fun x : Int => [Value.int .i64 x])⟩) :: R, φ⟩ (fun W h => (ok_frontR (t := 100100) (t' := 1000) h rfl)) Try.call79 rfl rfl (c_slices_Compact_79 x12 A10 c11 (Nat.le_trans (Nat.le_of_eq hp14) hc11) _ hx16) (fun ⟨A17, c18⟩ hc18 => ?_)
 refine g_sta _ (fun W h => (ok_frontR (t := 2000) (t' := 100100) h rfl)) <| g_v rfl (r_field (n := 0) Try.underlying84 rfl Try.sizeOf43 rfl rfl) <| g_v rfl (r_field (n := 12) Try.underlying43 rfl Try.sizeOf23 rfl rfl) <| g_storeL (tag := 100020) rfl rfl rfl rfl Try.sizeOf23 rfl rfl <| g_nil <| d_then <| c_seq <| c_seq <| ga_start (n := 6) ⟨w0, M, (100040, g2, .cells #[.int .i64 0, .int .i64 0, .int .i64 0, .int .i64 0, .int .i64 0, .int .i64 0, .int .i64 0, .slice none 0 0, .string (⟨#[]⟩ : ByteArray), .int .i64 0, .int .i64 0, .slice none 0 0, .slice none 0 0, .slice none 0 0] 84 (0, 0)) :: (100020, g1, .cells #[.int .i64 p0.fRaft.fMe, .int .i64 p0.fRaft.fRole, .int .i64 p0.fRaft.fLeader, .int .i64 p0.fRaft.fCommit, .int .i64 p0.fRaft.fLeft, .int .i64 p0.fRaft.fHard.fTerm, .int .i64 p0.fRaft.fHard.fVote, .slice Ap0_0 p0.fRaft.fHard.fVoters.length cp0_0, .string p0.fRaft.fHard.fSnap, .int .i64 p0.fRaft.fHard.fLog.fBase, .int .i64 p0.fRaft.fHard.fLog.fBaseTerm, .slice Ap0_1 p0.fRaft.fHard.fLog.fEntries.length cp0_1, .slice A17 x15.length c18, .slice Ap0_3 p0.fRaft.fMarks.length cp0_3] 84 (0, 0)) :: H, (100100, ⟨.slice A17 x15.length c18, 3, 1, x15.length, x15.flatMap (fun x : Int => [Value.int .i64 x])⟩) :: (100120, ⟨.slice (some ⟨g8, 0, none⟩) [p1].length 1, 3, 1, [p1].length, [p1].flatMap (fun x : Int => [Value.int .i64 x])⟩) :: R, φ⟩ [] #[false, false, false, false, false, false] (fun W h => h.phi (fun W hφ => hφ)) mixed rfl rfl <| ga_v (i := 0) (bz 6 1) rfl (by kernel_rfl) (fun _ _ _ _ h => h) rfl (r_loadA (tag := 100020) rfl rfl Try.isAgg84 Try.sizeOf84 rfl rfl) ?_
 refine ga_v (i := 2) (bz 6 5) rfl (by kernel_rfl) (fun _ _ _ _ h => h) rfl (r_field (n := 0) Try.underlying84 rfl Try.sizeOf43 rfl rfl) <| ga_v (i := 3) (bz 6 13) rfl (by kernel_rfl) (fun _ _ _ _ h => h) rfl (r_field (n := 12) Try.underlying43 rfl Try.sizeOf23 rfl rfl) <| ga_v (i := 4) (bz 6 29) rfl (by kernel_rfl) (fun _ _ _ _ h => h) rfl (r_load (tag := 100020) rfl rfl rfl Try.isAgg23) ?_
 replace hm := bnd hm
 obtain ⟨x34, hx35, hm⟩ := hm
 refine ga_cn (first := #[]) (i := 1) (bz 6 31) rfl (by kernel_rfl) (by decide)  ⟨w0, M, _, _, φ⟩ (fun _ h => h) Try.call40 rfl rfl rfl (c_raft_state_voters (⟨(⟨p0.fRaft.fMe, p0.fRaft.fRole, p0.fRaft.fLeader, p0.fRaft.fCommit, p0.fRaft.fLeft, p0.fRaft.fHard, x15, p0.fRaft.fMarks⟩ : GRaft)⟩ : Graft_state) Ap0_0 cp0_0 hcp0_0 (fun W hS => fp0_0 W hS.now) Ap0_1 cp0_1 hcp0_1 (fun W hS => fp0_1 W hS.now) A17 c18 hc18 (fun W hS => rowCl (tag := 100100) rfl W hS) Ap0_3 cp0_3 hcp0_3 (fun W hS => fp0_3 W hS.now) _ hx35) (fun ⟨A36, c37⟩ W hc37 h => ((ok_frontR (t := 2000) (t' := 100210) h rfl).dropR (t := 100210) rfl).phi (fun W hφ => hφ)) (fun ⟨A36, c37⟩ hc37 => ?_)
 refine ga_sta _ (fun W h => (ok_frontR (t := 2000) (t' := 100210) h rfl)) ?_
 replace hm := bnd hm
 obtain ⟨x39, hx40, hm⟩ := hm
 refine ga_cn (first := #[]) (i := 5) (bz 6 63) rfl (by kernel_rfl) (by decide)  ⟨w0, M, _, _, φ⟩ (fun _ h => h) Try.call13 rfl rfl rfl (c_raft_Majority x34 A36 c37 hc37 (fun W hS => rowCl (tag := 100210) rfl W hS) x15 A17 c18 hc18 (fun W hS => rowCl (tag := 100100) rfl W hS) _ hx40) (fun _ W _ h => (h.dropR (t := 100210) rfl).phi (fun W hφ => hφ)) (fun _ _ => ?_)
 refine ga_done (by kernel_rfl) <| d_then ?_
 refine c_flat [(2, .pointer (some ⟨g1, 0, none⟩)), (4, .pointer (some ⟨g2, 0, none⟩)), (25, .bool x39)] ⟨rfl, rfl, rfl, trivial⟩ (fun u => ?_)
 refine c_sta ⟨w0, M, (100040, g2, .cells #[.int .i64 0, .int .i64 0, .int .i64 0, .int .i64 0, .int .i64 0, .int .i64 0, .int .i64 0, .slice none 0 0, .string (⟨#[]⟩ : ByteArray), .int .i64 0, .int .i64 0, .slice none 0 0, .slice none 0 0, .slice none 0 0] 84 (0, 0)) :: (100020, g1, .cells #[.int .i64 p0.fRaft.fMe, .int .i64 p0.fRaft.fRole, .int .i64 p0.fRaft.fLeader, .int .i64 p0.fRaft.fCommit, .int .i64 p0.fRaft.fLeft, .int .i64 p0.fRaft.fHard.fTerm, .int .i64 p0.fRaft.fHard.fVote, .slice Ap0_0 p0.fRaft.fHard.fVoters.length cp0_0, .string p0.fRaft.fHard.fSnap, .int .i64 p0.fRaft.fHard.fLog.fBase, .int .i64 p0.fRaft.fHard.fLog.fBaseTerm, .slice Ap0_1 p0.fRaft.fHard.fLog.fEntries.length cp0_1, .slice A17 x15.length c18, .slice Ap0_3 p0.fRaft.fMarks.length cp0_3] 84 (0, 0)) :: H, (100210, ⟨.slice A36 x34.length c37, 3, 1, x34.length, x34.flatMap (fun x : Int => [Value.int .i64 x])⟩) :: (100100, ⟨.slice A17 x15.length c18, 3, 1, x15.length, x15.flatMap (fun x : Int => [Value.int .i64 x])⟩) :: (100120, ⟨.slice (some ⟨g8, 0, none⟩) [p1].length 1, 3, 1, [p1].length, [p1].flatMap (fun x : Int => [Value.int .i64 x])⟩) :: R, φ⟩ (fun _ h => h) ?_
 refine c_cond rfl (fun h41 => ?_) (fun h41 => ?_)
 ·
  replace hm := ite_t hm h41
  refine c_seq <| c_region <| g_v rfl (r_loadA (tag := 100020) rfl rfl Try.isAgg84 Try.sizeOf84 rfl rfl) ?_
  replace hm := bnd hm
  obtain ⟨⟨x42, x43⟩, hx44, hm⟩ := hm
  refine g_cn ⟨w0, M, _, _, φ⟩ (fun _ h => h) Try.call64 rfl rfl (c_raft_state_leads (⟨(⟨p0.fRaft.fMe, p0.fRaft.fRole, p0.fRaft.fLeader, p0.fRaft.fCommit, p0.fRaft.fLeft, p0.fRaft.fHard, x15, p0.fRaft.fMarks⟩ : GRaft)⟩ : Graft_state) Ap0_0 cp0_0 hcp0_0 (fun W h => fp0_0 W h) Ap0_1 cp0_1 hcp0_1 (fun W h => fp0_1 W h) A17 c18 hc18 (fun W hS => rowCl (tag := 100100) rfl W hS) Ap0_3 cp0_3 hcp0_3 (fun W hS => fp0_3 W hS.now) _ hx44) (fun ⟨A45, c46, A48, c49, A51, c52, A54, c55, A57, c58, ps60⟩ ⟨hc46, hc49, hc52, hc55, hc58⟩ => ?_)
  refine g_sta _ (fun W h => (ok_frontR (t := 2004) (t' := 100274) h rfl)) ?_
  refine g_abs (fun φ62 q62' => ?_)
  have q62 : ∀ W, φ62 W → φ W := fun W h => (q62' W h).1
  have f47 := fun (W : World) (h : φ62 W) => (q62' W h).2.1
  have f50 := fun (W : World) (h : φ62 W) => (q62' W h).2.2.1
  have f53 := fun (W : World) (h : φ62 W) => (q62' W h).2.2.2.1
  have f56 := fun (W : World) (h : φ62 W) => (q62' W h).2.2.2.2.1
  have f61 := fun (W : World) (h : φ62 W) => (q62' W h).2.2.2.2.2
  refine g_v rfl (r_extract rfl rfl) <| g_v rfl (r_extract rfl rfl) <| g_storeL (tag := 100040) rfl rfl rfl rfl Try.sizeOf84 rfl rfl <| g_v rfl r_assign <| g_nil <| d_then <| c_ret <| d_ret_then ?_
  cases hm
  refine d_sta _ (fun W h => ok_frontR (t := 100274) (t' := 2004) h rfl) ?_
  exact d_retC (A45, c46, A48, c49, A51, c52, A54, c55, A57, c58, ps60) Try.results59 (res_agg (tag := 100040) rfl rfl Try.isAgg84 Try.sizeOf84 (res_tmp (res_nil rfl))) ⟨hc46, hc49, hc52, hc55, ⟨hc58.1, hc58.2⟩⟩ (fun W h => (((((h.dropR (t := 100210) rfl).dropR (t := 100100) rfl).dropR (t := 100120) rfl).dropH (t := 100040) rfl).dropH (t := 100020) rfl).phi (fun W hφ => ⟨(q62 _ hφ), (fun W h => f47 W h) W hφ, (fun W h => f50 W h) W hφ, (fun W h => f53 W h) W hφ, (fun W h => f56 W h) W hφ, (fun W h => (f61 W h)) W hφ⟩)) (.inr rfl)
 replace hm := ite_f hm (bool_nt h41)
 refine c_skip <| d_then <| c_seq <| c_region <| g_v rfl (r_loadA (tag := 100020) rfl rfl Try.isAgg84 Try.sizeOf84 rfl rfl) <| g_storeL (tag := 100040) rfl rfl rfl rfl Try.sizeOf84 rfl rfl <| g_v rfl r_assign <| g_nil <| d_then <| c_ret ?_
 cases hm
 refine d_sta _ (fun W h => nilR h 11 25 11) ?_
 refine d_shut (tag := 100100) rfl (fun φ64 q64' => ?_)
 have q64 : ∀ W, φ64 W → φ W := fun W h => (q64' W h).1
 have f65 := fun (W : World) (h : φ64 W) => (q64' W h).2
 refine d_sta _ (fun W h => ok_frontR (t := 11) (t' := 2004) h rfl) ?_
 exact d_retC (Ap0_0, cp0_0, Ap0_1, cp0_1, A17, c18, Ap0_3, cp0_3, none, 0, ([] : List GNoteP)) Try.results59 (res_agg (tag := 100040) rfl rfl Try.isAgg84 Try.sizeOf84 (res_tmp (res_nil rfl))) ⟨hcp0_0, hcp0_1, hc18, hcp0_3, ⟨DOk.nil, (Nat.le_refl 0)⟩⟩ (fun W h => ((((h.dropR (t := 100210) rfl).dropR (t := 100120) rfl).dropH (t := 100040) rfl).dropH (t := 100020) rfl).phi (fun W hφ => ⟨(q64 _ hφ), (fun W h => fp0_0 W (q64 _ h)) W hφ, (fun W h => fp0_1 W (q64 _ h)) W hφ, (fun W h => f65 W h) W hφ, (fun W h => fp0_3 W (q64 _ h)) W hφ, (fun W h => DOwn.nil) W hφ⟩)) (.inr rfl)
noncomputable def m_raft_state_answered_c1 (p0 : GMark) (o0 : GNote) : Option Bool :=
  some (decide (p0.fNode = o0.fFrom))
theorem c_raft_state_answered_c1 {w0 : World} {M : Nat → Prop} {H : List (Nat × Nat × Obj)} {R : List (Nat × Row)} {φ : World → Prop} (p0 : GMark) (go0 : Nat) (o0 : GNote) (Ao0_0 : Option Addr) (co0_0 : Nat) (hco0_0 : o0.fEntries.length ≤ co0_0) (fo0_0 : ∀ W, φ W → Cl W Ao0_0 (o0.fEntries.flatMap GEntry.enc)) (Ao0_1 : Option Addr) (co0_1 : Nat) (hco0_1 : o0.fVoters.length ≤ co0_1) (fo0_1 : ∀ W, φ W → Cl W Ao0_1 (o0.fVoters.flatMap (fun x : Int => [Value.int .i64 x]))) (r : Bool) (hm : m_raft_state_answered_c1 p0 o0 = some r) :
    Cn Try.prog 80 #[.agg #[.int .i64 p0.fNode, .int .i64 p0.fNext, .int .i64 p0.fMatch], .pointer (some ⟨go0, 0, none⟩)] ⟨w0, M, (1000, go0, .cells #[.int .i64 o0.fKind, .int .i64 o0.fFrom, .int .i64 o0.fTo, .int .i64 o0.fTerm, .int .i64 o0.fIndex, .int .i64 o0.fLogTerm, .int .i64 o0.fCommit, .bool o0.fGood, .slice Ao0_0 o0.fEntries.length co0_0, .slice Ao0_1 o0.fVoters.length co0_1, .string o0.fSnap] 25 (0, 0)) :: H, R, φ⟩ (fun x : Unit => .bool r) (fun x => True) (fun x => ⟨w0, M, (1000, go0, .cells #[.int .i64 o0.fKind, .int .i64 o0.fFrom, .int .i64 o0.fTo, .int .i64 o0.fTerm, .int .i64 o0.fIndex, .int .i64 o0.fLogTerm, .int .i64 o0.fCommit, .bool o0.fGood, .slice Ao0_0 o0.fEntries.length co0_0, .slice Ao0_1 o0.fVoters.length co0_1, .string o0.fSnap] 25 (0, 0)) :: H, R, φ⟩) := by
 unfold m_raft_state_answered_c1 at hm
 refine cn_intro (fn := Try.f80) (N := 9) Try.func80 rfl Try.ntmps80 rfl <| c_seq <| c_region ?_
 refine g_e rfl (e_box 100020 rfl) (fun g1 _ => ?_)
 refine g_v rfl r_assign <| g_nil <| d_then <| c_seq <| c_region <| g_v rfl (r_field (n := 0) Try.underlying105 rfl Try.sizeOf3 rfl rfl) <| g_v rfl (r_load (tag := 100020) rfl rfl rfl Try.isAgg3) <| g_v rfl (r_field (n := 1) Try.underlying25 rfl Try.sizeOf3 rfl rfl) <| g_v rfl (r_load (tag := 1000) rfl rfl rfl Try.isAgg3) <| g_v rfl (r_eql rfl rfl) ?_
 refine g_v rfl r_assign <| g_nil <| d_then <| c_ret ?_
 cases hm
 exact d_retC () Try.results80 (res_tmp (res_nil rfl)) trivial (fun W h => (h.dropH (t := 100020) rfl).phi (fun W hφ => hφ)) (.inr rfl)
noncomputable def m_slices_IndexFunc_71_2_j1  : Option Int :=
  some (-1)
noncomputable def m_slices_IndexFunc_71_2_s2 (p0 : List GMark) (o0 : GNote) (i30 : Int) : Option (Int ⊕ (Unit ⊕ Int)) :=
  if i30 < (p0.length : Int) then
    (at_ p0 i30).bind fun x42 =>
    (m_raft_state_answered_c1 x42 o0).bind fun x46 =>
    if x46 = true then
      some (.inr (.inr i30))
    else
      some (.inl (w64 (i30 + 1)))
  else
    some (.inr (.inl ()))
noncomputable def m_slices_IndexFunc_71_2 (p0 : List GMark) (o0 : GNote) : Option Int :=
  (loop (fun s => m_slices_IndexFunc_71_2_s2 p0 o0 s) 0).bind fun e => Sum.elim (fun e => m_slices_IndexFunc_71_2_j1) (fun x => some x) e
theorem c_slices_IndexFunc_71_2 {w0 : World} {M : Nat → Prop} {H : List (Nat × Nat × Obj)} {R : List (Nat × Row)} {φ : World → Prop} (p0 : List GMark) (Ap0_0 : Option Addr) (cp0_0 : Nat) (hcp0_0 : p0.length ≤ cp0_0) (fp0_0 : ∀ W, (Sta.mk w0 M H R φ).ok W → Cl W Ap0_0 (p0.flatMap GMark.enc)) (go0 : Nat) (o0 : GNote) (Ao0_0 : Option Addr) (co0_0 : Nat) (hco0_0 : o0.fEntries.length ≤ co0_0) (fo0_0 : ∀ W, φ W → Cl W Ao0_0 (o0.fEntries.flatMap GEntry.enc)) (Ao0_1 : Option Addr) (co0_1 : Nat) (hco0_1 : o0.fVoters.length ≤ co0_1) (fo0_1 : ∀ W, φ W → Cl W Ao0_1 (o0.fVoters.flatMap (fun x : Int => [Value.int .i64 x]))) (r : Int) (hm : m_slices_IndexFunc_71_2 p0 o0 = some r) :
    Cn Try.prog 71 #[.slice Ap0_0 p0.length cp0_0, .func (.func 80) #[] #[.pointer (some ⟨go0, 0, none⟩)]] ⟨w0, M, (1000, go0, .cells #[.int .i64 o0.fKind, .int .i64 o0.fFrom, .int .i64 o0.fTo, .int .i64 o0.fTerm, .int .i64 o0.fIndex, .int .i64 o0.fLogTerm, .int .i64 o0.fCommit, .bool o0.fGood, .slice Ao0_0 o0.fEntries.length co0_0, .slice Ao0_1 o0.fVoters.length co0_1, .string o0.fSnap] 25 (0, 0)) :: H, R, φ⟩ (fun x : Unit => .int .i64 r) (fun x => True) (fun x => ⟨w0, M, (1000, go0, .cells #[.int .i64 o0.fKind, .int .i64 o0.fFrom, .int .i64 o0.fTo, .int .i64 o0.fTerm, .int .i64 o0.fIndex, .int .i64 o0.fLogTerm, .int .i64 o0.fCommit, .bool o0.fGood, .slice Ao0_0 o0.fEntries.length co0_0, .slice Ao0_1 o0.fVoters.length co0_1, .string o0.fSnap] 25 (0, 0)) :: H, R, φ⟩) := by
 unfold m_slices_IndexFunc_71_2 at hm
 refine cn_intro (fn := Try.f71) (N := 19) Try.func71 rfl Try.ntmps71 rfl <| c_seq <| c_region <| g_v rfl r_assign <| g_nil <| d_then <| c_seq <| c_seq <| c_region <| g_v rfl r_move ?_
 refine g_v rfl (r_lenL Try.underlying41 rfl) <| g_v rfl r_move <| g_nil <| d_then ?_
 refine c_cut (ι := Unit) [] (fun _ => []) (fun _ => ⟨w0, M, (1000, go0, .cells #[.int .i64 o0.fKind, .int .i64 o0.fFrom, .int .i64 o0.fTo, .int .i64 o0.fTerm, .int .i64 o0.fIndex, .int .i64 o0.fLogTerm, .int .i64 o0.fCommit, .bool o0.fGood, .slice Ao0_0 o0.fEntries.length co0_0, .slice Ao0_1 o0.fVoters.length co0_1, .string o0.fSnap] 25 (0, 0)) :: H, R, φ⟩) (fun _ => m_slices_IndexFunc_71_2_j1 = some r) ?_ (fun _ u hm => ?_)
 ·
  refine c_block ?_
  replace hm := bnd hm
  obtain ⟨out2, hl2, hr2⟩ := hm
  obtain ⟨n40', hl2⟩ := loop_lp hl2
  refine c_loopU (ι := Nat × Int) [0, 1, 7, 8] (fun ⟨n40, i30⟩ => [(8, .int .i64 i30)]) (fun ⟨n40, i30⟩ => ⟨w0, M, (1000, go0, .cells #[.int .i64 o0.fKind, .int .i64 o0.fFrom, .int .i64 o0.fTo, .int .i64 o0.fTerm, .int .i64 o0.fIndex, .int .i64 o0.fLogTerm, .int .i64 o0.fCommit, .bool o0.fGood, .slice Ao0_0 o0.fEntries.length co0_0, .slice Ao0_1 o0.fVoters.length co0_1, .string o0.fSnap] 25 (0, 0)) :: H, R, φ⟩) (fun ⟨n40, i30⟩ => Lp (fun s => m_slices_IndexFunc_71_2_s2 p0 o0 s) n40 i30 out2) (fun ⟨n40, i30⟩ => n40) (n40', 0) hl2 ⟨rfl, rfl, rfl, rfl, trivial⟩ (fun W h => h.phi (fun W hφ => hφ)) (fun ⟨n40, i30⟩ u hlp => ?_)
  obtain ⟨o2, hm, hnx2⟩ := lp_step hlp
  clear hlp
  replace hm : m_slices_IndexFunc_71_2_s2 p0 o0 i30 = some o2 := hm
  unfold m_slices_IndexFunc_71_2_s2 at hm
  refine c_flat [(0, .slice Ap0_0 p0.length cp0_0), (1, .func (.func 80) #[] #[.pointer (some ⟨go0, 0, none⟩)]), (7, .int .i64 (p0.length : Int)), (8, .int .i64 i30)] ⟨rfl, rfl, rfl, rfl, trivial⟩ (fun u => ?_)
  refine c_sta ⟨w0, M, (1000, go0, .cells #[.int .i64 o0.fKind, .int .i64 o0.fFrom, .int .i64 o0.fTo, .int .i64 o0.fTerm, .int .i64 o0.fIndex, .int .i64 o0.fLogTerm, .int .i64 o0.fCommit, .bool o0.fGood, .slice Ao0_0 o0.fEntries.length co0_0, .slice Ao0_1 o0.fVoters.length co0_1, .string o0.fSnap] 25 (0, 0)) :: H, R, φ⟩ (fun _ h => h) <| c_seq <| c_region <| g_v rfl (r_lss rfl rfl) <| g_nil <| d_then <| c_seq ?_
  refine c_cond rfl (fun h41 => ?_) (fun h41 => ?_)
  ·
   replace hm := ite_t hm (of_decide_eq_true h41)
   refine c_skip <| d_then <| c_seq <| c_block <| c_seq <| c_region <| g_v rfl r_move <| g_v rfl r_assign <| g_nil <| d_then ?_
   refine c_seq <| c_region ?_
   iterate 3 refine g_v rfl r_move ?_
   replace hm := bnd hm
   obtain ⟨x42, hx42, hm⟩ := hm
   refine g_know _ (fun W hS => cl_at (p := (Sta.mk w0 M H R φ).ok) (sz := 3) (fun _ => rfl) (by decide) (ok_pre (H1 := [_]) (R1 := []) hS (fun W h => h)) fp0_0 hx42) ?_
   rintro ⟨ad43, hA45, f44⟩
   refine g_v rfl (r_ix Try.underlying41 Try.sizeOf105 rfl hA45 rfl hx42) <| g_v rfl (r_ldA rfl Try.isAgg105 Try.sizeOf105 (fun W hS => (f44 W (ok_pre (H1 := [_]) (R1 := []) hS (fun W h => h))).take 3) rfl) ?_
   replace hm := bnd hm
   obtain ⟨x46, hx47, hm⟩ := hm
   refine g_cnv ⟨w0, M, (1000, go0, .cells #[.int .i64 o0.fKind, .int .i64 o0.fFrom, .int .i64 o0.fTo, .int .i64 o0.fTerm, .int .i64 o0.fIndex, .int .i64 o0.fLogTerm, .int .i64 o0.fCommit, .bool o0.fGood, .slice Ao0_0 o0.fEntries.length co0_0, .slice Ao0_1 o0.fVoters.length co0_1, .string o0.fSnap] 25 (0, 0)) :: H, R, φ⟩ (fun W h => (ok_front (t := 1000) (t' := 1000) h rfl)) Try.call80 rfl rfl rfl (c_raft_state_answered_c1 x42 go0 o0 Ao0_0 co0_0 hco0_0 (fun W h => fo0_0 W h) Ao0_1 co0_1 hco0_1 (fun W h => fo0_1 W h) _ hx47) (fun _ _ => ?_)
   refine g_sta _ (fun W h => (ok_front (t := 1000) (t' := 1000) h rfl)) <| g_nil <| d_then ?_
   refine c_flat [(0, .slice Ap0_0 p0.length cp0_0), (1, .func (.func 80) #[] #[.pointer (some ⟨go0, 0, none⟩)]), (5, .int .i64 i30), (7, .int .i64 (p0.length : Int)), (8, .int .i64 i30), (16, .bool x46)] ⟨rfl, rfl, rfl, rfl, rfl, rfl, trivial⟩ (fun u => ?_)
   refine c_cond rfl (fun h48 => ?_) (fun h48 => ?_)
   ·
    replace hm := ite_t hm h48
    refine c_seq <| c_region <| g_v rfl r_move <| g_v rfl r_assign <| g_nil <| d_then <| c_ret <| d_ret_block <| d_ret_then <| d_ret_then ?_
    refine d_ret_block <| d_ret_then <| d_ret_then ?_
    replace hm := nx_out (C := (fun e : Unit ⊕ Int => Sum.elim (fun e => m_slices_IndexFunc_71_2_j1) (fun x => some x) e = some r)) hm hnx2 hr2
    replace hm : some i30 = some r := hm
    cases hm
    exact d_retC () Try.results71 (res_tmp (res_nil rfl)) trivial (fun W h => h.phi (fun W hφ => hφ)) (.inr rfl)
   replace hm := ite_f hm (bool_nt h48)
   refine c_skip <| d_normal_block <| d_then <| c_region <| g_v rfl (r_add rfl rfl rfl) <| g_v rfl r_move <| g_nil ?_
   obtain ⟨n49, hn49, hlp⟩ := nx_inl hm hnx2
   exact d_round (n49, w64 (i30 + 1)) hlp hn49 ⟨rfl, rfl, rfl, rfl, trivial⟩ (fun W h => h.phi (fun W hφ => hφ))
  replace hm := ite_f hm (of_decide_eq_false h41)
  refine c_exit <| d_exit_then <| d_exit_then <| d_exit_block ?_
  replace hm := nx_out (C := (fun e : Unit ⊕ Int => Sum.elim (fun e => m_slices_IndexFunc_71_2_j1) (fun x => some x) e = some r)) hm hnx2 hr2
  exact d_round () hm Nat.zero_lt_one trivial (fun W h => h.phi (fun W hφ => hφ))
 unfold m_slices_IndexFunc_71_2_j1 at hm
 refine d_flat [] trivial (fun u => ?_)
 refine d_sta ⟨w0, M, (1000, go0, .cells #[.int .i64 o0.fKind, .int .i64 o0.fFrom, .int .i64 o0.fTo, .int .i64 o0.fTerm, .int .i64 o0.fIndex, .int .i64 o0.fLogTerm, .int .i64 o0.fCommit, .bool o0.fGood, .slice Ao0_0 o0.fEntries.length co0_0, .slice Ao0_1 o0.fVoters.length co0_1, .string o0.fSnap] 25 (0, 0)) :: H, R, φ⟩ (fun _ h => h) <| d_then <| c_seq <| c_region <| g_v rfl r_assign <| g_nil <| d_then <| c_ret ?_
 cases hm
 exact d_retC () Try.results71 (res_tmp (res_nil rfl)) trivial (fun W h => h.phi (fun W hφ => hφ)) (.inr rfl)
theorem isi105_20  : (Try.prog.info? 105).isSome = true := by kernel_rfl
noncomputable def m_slices_Clone_81 (p0 : List GMark) : Option (List GMark) :=
  (app 24 ([] : List GMark) p0).bind fun l3 =>
  some l3
theorem c_slices_Clone_81 {w0 : World} {M : Nat → Prop} {H : List (Nat × Nat × Obj)} {R : List (Nat × Row)} {φ : World → Prop} (p0 : List GMark) (Ap0_0 : Option Addr) (cp0_0 : Nat) (hcp0_0 : p0.length ≤ cp0_0) (fp0_0 : ∀ W, (Sta.mk w0 M H R φ).ok W → Cl W Ap0_0 (p0.flatMap GMark.enc)) (r : (List GMark)) (hm : m_slices_Clone_81 p0 = some r) :
    Cn Try.prog 81 #[.slice Ap0_0 p0.length cp0_0] ⟨w0, M, H, R, φ⟩ (fun x : Option Addr × Nat => .slice x.1 r.length x.2) (fun x => r.length ≤ x.2) (fun x => ⟨w0, M, H, (2000, ⟨.slice x.1 r.length x.2, 105, 3, r.length, r.flatMap GMark.enc⟩) :: R, φ⟩) := by
 unfold m_slices_Clone_81 at hm
 refine cn_intro (fn := Try.f81) (N := 8) Try.func81 rfl Try.ntmps81 rfl <| c_seq <| c_region <| g_v rfl r_assign <| g_nil <| d_then <| c_seq <| c_seq <| c_region <| g_v rfl r_move ?_
 refine g_v rfl (r_isNilS Try.underlying41 rfl rfl) <| g_nil <| d_then ?_
 refine c_cond rfl (fun h1 => ?_) (fun h1 => ?_)
 ·
  refine c_know (p0 = []) (fun W hS => cl_nil_of (enc := GMark.enc) (fun _ => Nat.le_of_ble_eq_true rfl) (nil_of h1 ▸ fp0_0 W (ok_pre (H1 := []) (R1 := []) hS (fun W h => h)))) (fun hnil => ?_)
  replace hm : some ([] : List GMark) = some r := by rw [hnil] at hm; exact hm
  refine c_seq <| c_region <| g_v rfl r_assign <| g_nil <| d_then <| c_ret <| d_ret_then ?_
  cases hm
  refine d_sta _ (fun W h => nilR h 11 105 3) <| d_sta _ (fun W h => ok_frontR (t := 11) (t' := 2000) h rfl) ?_
  exact d_retC (none, 0) Try.results81 (res_tmp (res_nil rfl)) (Nat.le_refl 0) (fun W h => h.phi (fun W hφ => hφ)) (.inr rfl)
 refine c_skip <| d_then <| c_seq <| c_region ?_
 refine g_e rfl (e_lit0 (tag := 100050) (sz := 3) Try.underlying41 isi105_20) (fun g2 _ => ?_)
 refine g_v rfl r_move ?_
 replace hm := bnd hm
 obtain ⟨l3, hl3, hm⟩ := hm
 refine g_e rfl (e_appR (enc := GMark.enc) (l := []) (l1 := p0) (l2 := l3) (tag := 100050) Try.underlying41 inf105_15 rfl (by decide) (by decide) (fun _ => rfl) (fun _ => rfl) rfl (Nat.le_refl 0) rfl rfl (fun W hS => fp0_0 W (ok_pre (H1 := []) (R1 := [_]) hS (fun W h => h))) hl3) (fun ⟨A4, c5⟩ hc5 => ?_)
 refine g_v rfl r_assign <| g_nil <| d_then <| c_ret ?_
 cases hm
 refine d_sta _ (fun W h => ok_frontR (t := 100050) (t' := 2000) h rfl) ?_
 exact d_retC (A4, c5) Try.results81 (res_tmp (res_nil rfl)) hc5 (fun W h => h.phi (fun W hφ => hφ)) (.inr rfl)
noncomputable def m_raft_state_answered_j1 (p0 : Graft_state) (x4 : Int) (p1 : GNote) : Option (Graft_state × (List GNote)) :=
  (m_slices_Clone_81 p0.fRaft.fMarks).bind fun x13 =>
  (at_ x13 x4).bind fun x18 =>
  if p1.fGood = true then
    (setAt x13 x4 (⟨x18.fNode, x18.fNext, (max x18.fMatch p1.fIndex)⟩ : GMark)).bind fun l35 =>
    (setAt l35 x4 (⟨x18.fNode, w64 ((max x18.fMatch p1.fIndex) + 1), (max x18.fMatch p1.fIndex)⟩ : GMark)).bind fun l40 =>
    (m_raft_state_commit (⟨(⟨p0.fRaft.fMe, p0.fRaft.fRole, p0.fRaft.fLeader, p0.fRaft.fCommit, p0.fRaft.fLeft, p0.fRaft.fHard, p0.fRaft.fVotes, l40⟩ : GRaft)⟩ : Graft_state)).bind fun x45 =>
    some (x45, ([] : List GNote))
  else
    (setAt x13 x4 (⟨x18.fNode, (max (w64 (x18.fMatch + 1)) (min (w64 (x18.fNext - 1)) (w64 (p1.fIndex + 1)))), x18.fMatch⟩ : GMark)).bind fun l75 =>
    (m_raft_state_sends (⟨(⟨p0.fRaft.fMe, p0.fRaft.fRole, p0.fRaft.fLeader, p0.fRaft.fCommit, p0.fRaft.fLeft, p0.fRaft.fHard, p0.fRaft.fVotes, l75⟩ : GRaft)⟩ : Graft_state) (⟨x18.fNode, (max (w64 (x18.fMatch + 1)) (min (w64 (x18.fNext - 1)) (w64 (p1.fIndex + 1)))), x18.fMatch⟩ : GMark)).bind fun x114 =>
    some ((⟨(⟨p0.fRaft.fMe, p0.fRaft.fRole, p0.fRaft.fLeader, p0.fRaft.fCommit, p0.fRaft.fLeft, p0.fRaft.fHard, p0.fRaft.fVotes, l75⟩ : GRaft)⟩ : Graft_state), [x114])
noncomputable def m_raft_state_answered (p0 : Graft_state) (p1 : GNote) : Option (Graft_state × (List GNote)) :=
  (m_slices_IndexFunc_71_2 p0.fRaft.fMarks p1).bind fun x4 =>
  (m_raft_state_last p0).bind fun (z9 : Int × Int) =>
  if x4 < 0 then
    some (p0, ([] : List GNote))
  else
    if p1.fGood = true then
      if z9.1 < p1.fIndex then
        some (p0, ([] : List GNote))
      else
        m_raft_state_answered_j1 p0 x4 p1
    else
      m_raft_state_answered_j1 p0 x4 p1
theorem c_raft_state_answered {w0 : World} {M : Nat → Prop} {H : List (Nat × Nat × Obj)} {R : List (Nat × Row)} {φ : World → Prop} (p0 : Graft_state) (Ap0_0 : Option Addr) (cp0_0 : Nat) (hcp0_0 : p0.fRaft.fHard.fVoters.length ≤ cp0_0) (fp0_0 : ∀ W, φ W → Cl W Ap0_0 (p0.fRaft.fHard.fVoters.flatMap (fun x : Int => [Value.int .i64 x]))) (Ap0_1 : Option Addr) (cp0_1 : Nat) (hcp0_1 : p0.fRaft.fHard.fLog.fEntries.length ≤ cp0_1) (fp0_1 : ∀ W, φ W → Cl W Ap0_1 (p0.fRaft.fHard.fLog.fEntries.flatMap GEntry.enc)) (Ap0_2 : Option Addr) (cp0_2 : Nat) (hcp0_2 : p0.fRaft.fVotes.length ≤ cp0_2) (fp0_2 : ∀ W, φ W → Cl W Ap0_2 (p0.fRaft.fVotes.flatMap (fun x : Int => [Value.int .i64 x]))) (Ap0_3 : Option Addr) (cp0_3 : Nat) (hcp0_3 : p0.fRaft.fMarks.length ≤ cp0_3) (fp0_3 : ∀ W, φ W → Cl W Ap0_3 (p0.fRaft.fMarks.flatMap GMark.enc)) (p1 : GNote) (Ap1_0 : Option Addr) (cp1_0 : Nat) (hcp1_0 : p1.fEntries.length ≤ cp1_0) (fp1_0 : ∀ W, φ W → Cl W Ap1_0 (p1.fEntries.flatMap GEntry.enc)) (Ap1_1 : Option Addr) (cp1_1 : Nat) (hcp1_1 : p1.fVoters.length ≤ cp1_1) (fp1_1 : ∀ W, φ W → Cl W Ap1_1 (p1.fVoters.flatMap (fun x : Int => [Value.int .i64 x]))) (r : Graft_state × (List GNote)) (hm : m_raft_state_answered p0 p1 = some r) :
    Cn Try.prog 60 #[.agg #[.int .i64 p0.fRaft.fMe, .int .i64 p0.fRaft.fRole, .int .i64 p0.fRaft.fLeader, .int .i64 p0.fRaft.fCommit, .int .i64 p0.fRaft.fLeft, .int .i64 p0.fRaft.fHard.fTerm, .int .i64 p0.fRaft.fHard.fVote, .slice Ap0_0 p0.fRaft.fHard.fVoters.length cp0_0, .string p0.fRaft.fHard.fSnap, .int .i64 p0.fRaft.fHard.fLog.fBase, .int .i64 p0.fRaft.fHard.fLog.fBaseTerm, .slice Ap0_1 p0.fRaft.fHard.fLog.fEntries.length cp0_1, .slice Ap0_2 p0.fRaft.fVotes.length cp0_2, .slice Ap0_3 p0.fRaft.fMarks.length cp0_3], .agg #[.int .i64 p1.fKind, .int .i64 p1.fFrom, .int .i64 p1.fTo, .int .i64 p1.fTerm, .int .i64 p1.fIndex, .int .i64 p1.fLogTerm, .int .i64 p1.fCommit, .bool p1.fGood, .slice Ap1_0 p1.fEntries.length cp1_0, .slice Ap1_1 p1.fVoters.length cp1_1, .string p1.fSnap]] ⟨w0, M, H, R, φ⟩ (fun x : Option Addr × Nat × Option Addr × Nat × Option Addr × Nat × Option Addr × Nat × Option Addr × Nat × List GNoteP => .tuple #[.agg #[.int .i64 r.1.fRaft.fMe, .int .i64 r.1.fRaft.fRole, .int .i64 r.1.fRaft.fLeader, .int .i64 r.1.fRaft.fCommit, .int .i64 r.1.fRaft.fLeft, .int .i64 r.1.fRaft.fHard.fTerm, .int .i64 r.1.fRaft.fHard.fVote, .slice x.1 r.1.fRaft.fHard.fVoters.length x.2.1, .string r.1.fRaft.fHard.fSnap, .int .i64 r.1.fRaft.fHard.fLog.fBase, .int .i64 r.1.fRaft.fHard.fLog.fBaseTerm, .slice x.2.2.1 r.1.fRaft.fHard.fLog.fEntries.length x.2.2.2.1, .slice x.2.2.2.2.1 r.1.fRaft.fVotes.length x.2.2.2.2.2.1, .slice x.2.2.2.2.2.2.1 r.1.fRaft.fMarks.length x.2.2.2.2.2.2.2.1], .slice x.2.2.2.2.2.2.2.2.1 r.2.length x.2.2.2.2.2.2.2.2.2.1]) (fun x => r.1.fRaft.fHard.fVoters.length ≤ x.2.1 ∧ r.1.fRaft.fHard.fLog.fEntries.length ≤ x.2.2.2.1 ∧ r.1.fRaft.fVotes.length ≤ x.2.2.2.2.2.1 ∧ r.1.fRaft.fMarks.length ≤ x.2.2.2.2.2.2.2.1 ∧ (DOk GNote.capP r.2 x.2.2.2.2.2.2.2.2.2.2 ∧ r.2.length ≤ x.2.2.2.2.2.2.2.2.2.1)) (fun x => ⟨w0, M, H, (2004, ⟨.slice x.2.2.2.2.2.2.2.2.1 r.2.length x.2.2.2.2.2.2.2.2.2.1, 25, 11, r.2.length, (r.2.zip x.2.2.2.2.2.2.2.2.2.2).flatMap GNote.encP⟩) :: R, fun W => φ W ∧ Cl W x.1 (r.1.fRaft.fHard.fVoters.flatMap (fun x : Int => [Value.int .i64 x])) ∧ Cl W x.2.2.1 (r.1.fRaft.fHard.fLog.fEntries.flatMap GEntry.enc) ∧ Cl W x.2.2.2.2.1 (r.1.fRaft.fVotes.flatMap (fun x : Int => [Value.int .i64 x])) ∧ Cl W x.2.2.2.2.2.2.1 (r.1.fRaft.fMarks.flatMap GMark.enc) ∧ DOwn GNote.ownP r.2 x.2.2.2.2.2.2.2.2.2.2 W⟩) := by
 unfold m_raft_state_answered at hm
 refine cn_intro (fn := Try.f60) (N := 91) Try.func60 rfl Try.ntmps60 rfl <| c_seq <| c_region ?_
 refine g_e rfl (e_box 100020 rfl) (fun g1 _ => ?_)
 refine g_e rfl (e_box 100030 rfl) (fun g2 _ => ?_)
 refine g_e rfl (e_alloc 100040 Try.zeroValue84) (fun g3 _ => ?_)
 refine g_v rfl r_assign <| g_nil <| d_then <| c_seq <| c_region <| g_v rfl (r_field (n := 0) Try.underlying84 rfl Try.sizeOf43 rfl rfl) <| g_v rfl (r_field (n := 13) Try.underlying43 rfl Try.sizeOf41 rfl rfl) <| g_v rfl (r_load (tag := 100020) rfl rfl rfl Try.isAgg41) <| g_v rfl (r_mkf rfl) ?_
 replace hm := bnd hm
 obtain ⟨x4, hx5, hm⟩ := hm
 refine g_cn ⟨w0, M, (1000, g2, .cells #[.int .i64 p1.fKind, .int .i64 p1.fFrom, .int .i64 p1.fTo, .int .i64 p1.fTerm, .int .i64 p1.fIndex, .int .i64 p1.fLogTerm, .int .i64 p1.fCommit, .bool p1.fGood, .slice Ap1_0 p1.fEntries.length cp1_0, .slice Ap1_1 p1.fVoters.length cp1_1, .string p1.fSnap] 25 (0, 0)) :: (100040, g3, .cells #[.int .i64 0, .int .i64 0, .int .i64 0, .int .i64 0, .int .i64 0, .int .i64 0, .int .i64 0, .slice none 0 0, .string (⟨#[]⟩ : ByteArray), .int .i64 0, .int .i64 0, .slice none 0 0, .slice none 0 0, .slice none 0 0] 84 (0, 0)) :: (100020, g1, .cells #[.int .i64 p0.fRaft.fMe, .int .i64 p0.fRaft.fRole, .int .i64 p0.fRaft.fLeader, .int .i64 p0.fRaft.fCommit, .int .i64 p0.fRaft.fLeft, .int .i64 p0.fRaft.fHard.fTerm, .int .i64 p0.fRaft.fHard.fVote, .slice Ap0_0 p0.fRaft.fHard.fVoters.length cp0_0, .string p0.fRaft.fHard.fSnap, .int .i64 p0.fRaft.fHard.fLog.fBase, .int .i64 p0.fRaft.fHard.fLog.fBaseTerm, .slice Ap0_1 p0.fRaft.fHard.fLog.fEntries.length cp0_1, .slice Ap0_2 p0.fRaft.fVotes.length cp0_2, .slice Ap0_3 p0.fRaft.fMarks.length cp0_3] 84 (0, 0)) :: H, R, φ⟩ (fun W h => (ok_front (t := 100030) (t' := 1000) h rfl)) Try.call71 rfl rfl (c_slices_IndexFunc_71_2 p0.fRaft.fMarks Ap0_3 cp0_3 hcp0_3 (fun W hS => fp0_3 W hS.now) g2 p1 Ap1_0 cp1_0 hcp1_0 (fun W h => fp1_0 W h) Ap1_1 cp1_1 hcp1_1 (fun W h => fp1_1 W h) _ hx5) (fun _ _ => ?_)
 refine g_sta _ (fun W h => (ok_front (t := 1000) (t' := 100030) h rfl)) <| g_v rfl r_assign <| g_nil <| d_then ?_
 refine c_flat [(2, .pointer (some ⟨g1, 0, none⟩)), (3, .pointer (some ⟨g2, 0, none⟩)), (4, .pointer (some ⟨g3, 0, none⟩)), (6, .int .i64 x4)] ⟨rfl, rfl, rfl, rfl, trivial⟩ (fun u => ?_)
 refine c_sta ⟨w0, M, (100030, g2, .cells #[.int .i64 p1.fKind, .int .i64 p1.fFrom, .int .i64 p1.fTo, .int .i64 p1.fTerm, .int .i64 p1.fIndex, .int .i64 p1.fLogTerm, .int .i64 p1.fCommit, .bool p1.fGood, .slice Ap1_0 p1.fEntries.length cp1_0, .slice Ap1_1 p1.fVoters.length cp1_1, .string p1.fSnap] 25 (0, 0)) :: (100040, g3, .cells #[.int .i64 0, .int .i64 0, .int .i64 0, .int .i64 0, .int .i64 0, .int .i64 0, .int .i64 0, .slice none 0 0, .string (⟨#[]⟩ : ByteArray), .int .i64 0, .int .i64 0, .slice none 0 0, .slice none 0 0, .slice none 0 0] 84 (0, 0)) :: (100020, g1, .cells #[.int .i64 p0.fRaft.fMe, .int .i64 p0.fRaft.fRole, .int .i64 p0.fRaft.fLeader, .int .i64 p0.fRaft.fCommit, .int .i64 p0.fRaft.fLeft, .int .i64 p0.fRaft.fHard.fTerm, .int .i64 p0.fRaft.fHard.fVote, .slice Ap0_0 p0.fRaft.fHard.fVoters.length cp0_0, .string p0.fRaft.fHard.fSnap, .int .i64 p0.fRaft.fHard.fLog.fBase, .int .i64 p0.fRaft.fHard.fLog.fBaseTerm, .slice Ap0_1 p0.fRaft.fHard.fLog.fEntries.length cp0_1, .slice Ap0_2 p0.fRaft.fVotes.length cp0_2, .slice Ap0_3 p0.fRaft.fMarks.length cp0_3] 84 (0, 0)) :: H, R, φ⟩ (fun _ h => h) <| c_seq <| c_region <| g_v rfl (r_loadA (tag := 100020) rfl rfl Try.isAgg84 Try.sizeOf84 rfl rfl) ?_
 replace hm := bnd hm
 obtain ⟨⟨x6, x7⟩, hx8, hm⟩ := hm
 refine g_cn ⟨w0, M, _, _, φ⟩ (fun _ h => h) Try.call42 rfl rfl (c_raft_state_last p0 Ap0_0 cp0_0 hcp0_0 (fun W hS => fp0_0 W hS.now) Ap0_1 cp0_1 hcp0_1 (fun W hS => fp0_1 W hS.now) Ap0_2 cp0_2 hcp0_2 (fun W hS => fp0_2 W hS.now) Ap0_3 cp0_3 hcp0_3 (fun W hS => fp0_3 W hS.now) _ hx8) (fun _ _ => ?_)
 refine g_v rfl r_move <| g_v rfl (r_extract rfl rfl) <| g_v rfl (r_extract rfl rfl) <| g_v rfl r_assign <| g_v rfl r_assign <| g_nil <| d_then <| c_seq ?_
 refine c_cut (ι := Unit) [2, 3, 4, 6] (fun _ => []) (fun _ => ⟨w0, M, (100030, g2, .cells #[.int .i64 p1.fKind, .int .i64 p1.fFrom, .int .i64 p1.fTo, .int .i64 p1.fTerm, .int .i64 p1.fIndex, .int .i64 p1.fLogTerm, .int .i64 p1.fCommit, .bool p1.fGood, .slice Ap1_0 p1.fEntries.length cp1_0, .slice Ap1_1 p1.fVoters.length cp1_1, .string p1.fSnap] 25 (0, 0)) :: (100040, g3, .cells #[.int .i64 0, .int .i64 0, .int .i64 0, .int .i64 0, .int .i64 0, .int .i64 0, .int .i64 0, .slice none 0 0, .string (⟨#[]⟩ : ByteArray), .int .i64 0, .int .i64 0, .slice none 0 0, .slice none 0 0, .slice none 0 0] 84 (0, 0)) :: (100020, g1, .cells #[.int .i64 p0.fRaft.fMe, .int .i64 p0.fRaft.fRole, .int .i64 p0.fRaft.fLeader, .int .i64 p0.fRaft.fCommit, .int .i64 p0.fRaft.fLeft, .int .i64 p0.fRaft.fHard.fTerm, .int .i64 p0.fRaft.fHard.fVote, .slice Ap0_0 p0.fRaft.fHard.fVoters.length cp0_0, .string p0.fRaft.fHard.fSnap, .int .i64 p0.fRaft.fHard.fLog.fBase, .int .i64 p0.fRaft.fHard.fLog.fBaseTerm, .slice Ap0_1 p0.fRaft.fHard.fLog.fEntries.length cp0_1, .slice Ap0_2 p0.fRaft.fVotes.length cp0_2, .slice Ap0_3 p0.fRaft.fMarks.length cp0_3] 84 (0, 0)) :: H, R, φ⟩) (fun _ => m_raft_state_answered_j1 p0 x4 p1 = some r) ?_ (fun _ u hm => ?_)
 ·
  refine c_seq <| c_region <| g_v rfl r_move <| g_v rfl (r_lss rfl rfl) <| g_v rfl r_move ?_
  refine g_if rfl rfl rfl rfl rfl (fun h136 => ?_) (fun h136 => ?_)
  ·
   replace hm := ite_f hm (of_decide_eq_false h136)
   refine g_v rfl (r_field (n := 7) Try.underlying25 rfl Try.sizeOf4 rfl rfl) <| g_do rfl rfl rfl rfl rfl h136 <| g_v rfl (r_load (tag := 100030) rfl rfl rfl Try.isAgg4) <| g_do rfl rfl rfl rfl rfl h136 <| g_v rfl r_move ?_
   refine g_if rfl rfl rfl rfl rfl (fun h137 => ?_) (fun h137 => ?_)
   ·
    replace hm := ite_t hm h137
    refine g_v rfl (r_field (n := 4) Try.underlying25 rfl Try.sizeOf3 rfl rfl) <| g_do rfl rfl rfl rfl rfl h137 <| g_v rfl (r_load (tag := 100030) rfl rfl rfl Try.isAgg3) <| g_do rfl rfl rfl rfl rfl h137 <| g_v rfl r_move <| g_do rfl rfl rfl rfl rfl h137 <| g_v rfl (r_gtr rfl rfl) <| g_do rfl rfl rfl rfl rfl h136 <| g_v rfl (r_pick1 rfl h137) <| g_v rfl (r_pick0 rfl h136) ?_
    refine g_nil <| d_then ?_
    refine c_flat [(2, .pointer (some ⟨g1, 0, none⟩)), (3, .pointer (some ⟨g2, 0, none⟩)), (4, .pointer (some ⟨g3, 0, none⟩)), (6, .int .i64 x4), (31, .bool (decide (x6 < p1.fIndex)))] ⟨rfl, rfl, rfl, rfl, rfl, trivial⟩ (fun u => ?_)
    refine c_cond rfl (fun h138 => ?_) (fun h138 => ?_)
    ·
     replace hm := ite_t hm (of_decide_eq_true h138)
     refine c_seq <| c_region <| g_v rfl (r_loadA (tag := 100020) rfl rfl Try.isAgg84 Try.sizeOf84 rfl rfl) <| g_storeL (tag := 100040) rfl rfl rfl rfl Try.sizeOf84 rfl rfl <| g_v rfl r_assign <| g_nil <| d_then <| c_ret <| d_ret_then <| d_ret_then ?_
     cases hm
     refine d_sta _ (fun W h => nilR h 14 25 11) <| d_sta _ (fun W h => ok_frontR (t := 14) (t' := 2004) h rfl) ?_
     exact d_retC (Ap0_0, cp0_0, Ap0_1, cp0_1, Ap0_2, cp0_2, Ap0_3, cp0_3, none, 0, ([] : List GNoteP)) Try.results60 (res_agg (tag := 100040) rfl rfl Try.isAgg84 Try.sizeOf84 (res_tmp (res_nil rfl))) ⟨hcp0_0, hcp0_1, hcp0_2, hcp0_3, ⟨DOk.nil, (Nat.le_refl 0)⟩⟩ (fun W h => (((h.dropH (t := 100030) rfl).dropH (t := 100040) rfl).dropH (t := 100020) rfl).phi (fun W hφ => ⟨hφ, (fun W h => fp0_0 W h) W hφ, (fun W h => fp0_1 W h) W hφ, (fun W h => fp0_2 W h) W hφ, (fun W h => fp0_3 W h) W hφ, (fun W h => DOwn.nil) W hφ⟩)) (.inr rfl)
    replace hm := ite_f hm (of_decide_eq_false h138)
    refine c_skip ?_
    exact d_round () hm Nat.zero_lt_one ⟨rfl, rfl, rfl, rfl, trivial⟩ (fun W h => h.phi (fun W hφ => hφ))
   replace hm := ite_f hm (bool_nt h137)
   iterate 3 refine g_no rfl rfl rfl rfl rfl h137 ?_
   refine g_do rfl rfl rfl rfl rfl h136 <| g_v rfl (r_pick0 rfl h137) <| g_v rfl (r_pick0 rfl h136) <| g_nil <| d_then ?_
   refine c_flat [(2, .pointer (some ⟨g1, 0, none⟩)), (3, .pointer (some ⟨g2, 0, none⟩)), (4, .pointer (some ⟨g3, 0, none⟩)), (6, .int .i64 x4), (31, .bool false)] ⟨rfl, rfl, rfl, rfl, rfl, trivial⟩ (fun u => ?_)
   refine c_cond0 rfl rfl <| c_skip ?_
   exact d_round () hm Nat.zero_lt_one ⟨rfl, rfl, rfl, rfl, trivial⟩ (fun W h => h.phi (fun W hφ => hφ))
  replace hm := ite_t hm (of_decide_eq_true h136)
  refine g_no rfl rfl rfl rfl rfl h136 <| g_no rfl rfl rfl rfl rfl h136 ?_
  iterate 4 refine g_nu rfl rfl rfl rfl rfl ?_
  refine g_no rfl rfl rfl rfl rfl h136 <| g_v rfl (r_pick1 rfl h136) <| g_nil <| d_then ?_
  refine c_flat [(2, .pointer (some ⟨g1, 0, none⟩)), (3, .pointer (some ⟨g2, 0, none⟩)), (4, .pointer (some ⟨g3, 0, none⟩)), (6, .int .i64 x4), (31, .bool true)] ⟨rfl, rfl, rfl, rfl, rfl, trivial⟩ (fun u => ?_)
  refine c_cond1 rfl rfl <| c_seq <| c_region <| g_v rfl (r_loadA (tag := 100020) rfl rfl Try.isAgg84 Try.sizeOf84 rfl rfl) <| g_storeL (tag := 100040) rfl rfl rfl rfl Try.sizeOf84 rfl rfl <| g_v rfl r_assign <| g_nil <| d_then <| c_ret <| d_ret_then ?_
  refine d_ret_then ?_
  cases hm
  refine d_sta _ (fun W h => nilR h 15 25 11) <| d_sta _ (fun W h => ok_frontR (t := 15) (t' := 2004) h rfl) ?_
  exact d_retC (Ap0_0, cp0_0, Ap0_1, cp0_1, Ap0_2, cp0_2, Ap0_3, cp0_3, none, 0, ([] : List GNoteP)) Try.results60 (res_agg (tag := 100040) rfl rfl Try.isAgg84 Try.sizeOf84 (res_tmp (res_nil rfl))) ⟨hcp0_0, hcp0_1, hcp0_2, hcp0_3, ⟨DOk.nil, (Nat.le_refl 0)⟩⟩ (fun W h => (((h.dropH (t := 100030) rfl).dropH (t := 100040) rfl).dropH (t := 100020) rfl).phi (fun W hφ => ⟨hφ, (fun W h => fp0_0 W h) W hφ, (fun W h => fp0_1 W h) W hφ, (fun W h => fp0_2 W h) W hφ, (fun W h => fp0_3 W h) W hφ, (fun W h => DOwn.nil) W hφ⟩)) (.inr rfl)
 unfold m_raft_state_answered_j1 at hm
 refine d_flat [(2, .pointer (some ⟨g1, 0, none⟩)), (3, .pointer (some ⟨g2, 0, none⟩)), (4, .pointer (some ⟨g3, 0, none⟩)), (6, .int .i64 x4)] ⟨rfl, rfl, rfl, rfl, trivial⟩ (fun u => ?_)
 refine d_then <| c_seq <| c_region <| g_v rfl (r_field (n := 0) Try.underlying84 rfl Try.sizeOf43 rfl rfl) <| g_v rfl (r_field (n := 13) Try.underlying43 rfl Try.sizeOf41 rfl rfl) <| g_v rfl (r_load (tag := 100020) rfl rfl rfl Try.isAgg41) ?_
 replace hm := bnd hm
 obtain ⟨x13, hx14, hm⟩ := hm
 refine g_cn ⟨w0, M, _, _, φ⟩ (fun _ h => h) Try.call81 rfl rfl (c_slices_Clone_81 p0.fRaft.fMarks Ap0_3 cp0_3 hcp0_3 (fun W hS => fp0_3 W hS.now) _ hx14) (fun ⟨A15, c16⟩ hc16 => ?_)
 refine g_sta _ (fun W h => (ok_frontR (t := 2000) (t' := 100360) h rfl)) <| g_v rfl (r_field (n := 0) Try.underlying84 rfl Try.sizeOf43 rfl rfl) <| g_v rfl (r_field (n := 13) Try.underlying43 rfl Try.sizeOf41 rfl rfl) <| g_storeL (tag := 100020) rfl rfl rfl rfl Try.sizeOf41 rfl rfl <| g_nil <| d_then <| c_seq <| c_region <| g_v rfl (r_field (n := 0) Try.underlying84 rfl Try.sizeOf43 rfl rfl) <| g_v rfl (r_field (n := 13) Try.underlying43 rfl Try.sizeOf41 rfl rfl) ?_
 refine g_v rfl (r_load (tag := 100020) rfl rfl rfl Try.isAgg41) <| g_v rfl r_move ?_
 replace hm := bnd hm
 obtain ⟨x18, hx18, hm⟩ := hm
 refine g_know _ (fun W hS => cl_at (p := (Sta.ok ⟨w0, M, (100030, g2, .cells #[.int .i64 p1.fKind, .int .i64 p1.fFrom, .int .i64 p1.fTo, .int .i64 p1.fTerm, .int .i64 p1.fIndex, .int .i64 p1.fLogTerm, .int .i64 p1.fCommit, .bool p1.fGood, .slice Ap1_0 p1.fEntries.length cp1_0, .slice Ap1_1 p1.fVoters.length cp1_1, .string p1.fSnap] 25 (0, 0)) :: (100040, g3, .cells #[.int .i64 0, .int .i64 0, .int .i64 0, .int .i64 0, .int .i64 0, .int .i64 0, .int .i64 0, .slice none 0 0, .string (⟨#[]⟩ : ByteArray), .int .i64 0, .int .i64 0, .slice none 0 0, .slice none 0 0, .slice none 0 0] 84 (0, 0)) :: (100020, g1, .cells #[.int .i64 p0.fRaft.fMe, .int .i64 p0.fRaft.fRole, .int .i64 p0.fRaft.fLeader, .int .i64 p0.fRaft.fCommit, .int .i64 p0.fRaft.fLeft, .int .i64 p0.fRaft.fHard.fTerm, .int .i64 p0.fRaft.fHard.fVote, .slice Ap0_0 p0.fRaft.fHard.fVoters.length cp0_0, .string p0.fRaft.fHard.fSnap, .int .i64 p0.fRaft.fHard.fLog.fBase, .int .i64 p0.fRaft.fHard.fLog.fBaseTerm, .slice Ap0_1 p0.fRaft.fHard.fLog.fEntries.length cp0_1, .slice Ap0_2 p0.fRaft.fVotes.length cp0_2, .slice A15 x13.length c16] 84 (0, 0)) :: H, (100360, ⟨.slice A15 x13.length c16, 105, 3, x13.length, x13.flatMap GMark.enc⟩) :: R, φ⟩)) (sz := 3) (fun _ => rfl) (by decide) hS (fun W hS => rowCl (S := ⟨w0, M, (100030, g2, .cells #[.int .i64 p1.fKind, .int .i64 p1.fFrom, .int .i64 p1.fTo, .int .i64 p1.fTerm, .int .i64 p1.fIndex, .int .i64 p1.fLogTerm, .int .i64 p1.fCommit, .bool p1.fGood, .slice Ap1_0 p1.fEntries.length cp1_0, .slice Ap1_1 p1.fVoters.length cp1_1, .string p1.fSnap] 25 (0, 0)) :: (100040, g3, .cells #[.int .i64 0, .int .i64 0, .int .i64 0, .int .i64 0, .int .i64 0, .int .i64 0, .int .i64 0, .slice none 0 0, .string (⟨#[]⟩ : ByteArray), .int .i64 0, .int .i64 0, .slice none 0 0, .slice none 0 0, .slice none 0 0] 84 (0, 0)) :: (100020, g1, .cells #[.int .i64 p0.fRaft.fMe, .int .i64 p0.fRaft.fRole, .int .i64 p0.fRaft.fLeader, .int .i64 p0.fRaft.fCommit, .int .i64 p0.fRaft.fLeft, .int .i64 p0.fRaft.fHard.fTerm, .int .i64 p0.fRaft.fHard.fVote, .slice Ap0_0 p0.fRaft.fHard.fVoters.length cp0_0, .string p0.fRaft.fHard.fSnap, .int .i64 p0.fRaft.fHard.fLog.fBase, .int .i64 p0.fRaft.fHard.fLog.fBaseTerm, .slice Ap0_1 p0.fRaft.fHard.fLog.fEntries.length cp0_1, .slice Ap0_2 p0.fRaft.fVotes.length cp0_2, .slice A15 x13.length c16] 84 (0, 0)) :: H, (100360, ⟨.slice A15 x13.length c16, 105, 3, x13.length, x13.flatMap GMark.enc⟩) :: R, φ⟩) (tag := 100360) rfl W hS) hx18) ?_
 rintro ⟨ad19, hA21, f20⟩
 refine g_v rfl (r_ix Try.underlying41 Try.sizeOf105 rfl hA21 rfl hx18) <| g_v rfl r_assign <| g_nil <| d_then ?_
 refine c_flat [(2, .pointer (some ⟨g1, 0, none⟩)), (3, .pointer (some ⟨g2, 0, none⟩)), (4, .pointer (some ⟨g3, 0, none⟩)), (9, .pointer (some (ad19.add (x4.toNat * 3))))] ⟨rfl, rfl, rfl, rfl, trivial⟩ (fun u => ?_)
 refine c_sta ⟨w0, M, (100030, g2, .cells #[.int .i64 p1.fKind, .int .i64 p1.fFrom, .int .i64 p1.fTo, .int .i64 p1.fTerm, .int .i64 p1.fIndex, .int .i64 p1.fLogTerm, .int .i64 p1.fCommit, .bool p1.fGood, .slice Ap1_0 p1.fEntries.length cp1_0, .slice Ap1_1 p1.fVoters.length cp1_1, .string p1.fSnap] 25 (0, 0)) :: (100040, g3, .cells #[.int .i64 0, .int .i64 0, .int .i64 0, .int .i64 0, .int .i64 0, .int .i64 0, .int .i64 0, .slice none 0 0, .string (⟨#[]⟩ : ByteArray), .int .i64 0, .int .i64 0, .slice none 0 0, .slice none 0 0, .slice none 0 0] 84 (0, 0)) :: (100020, g1, .cells #[.int .i64 p0.fRaft.fMe, .int .i64 p0.fRaft.fRole, .int .i64 p0.fRaft.fLeader, .int .i64 p0.fRaft.fCommit, .int .i64 p0.fRaft.fLeft, .int .i64 p0.fRaft.fHard.fTerm, .int .i64 p0.fRaft.fHard.fVote, .slice Ap0_0 p0.fRaft.fHard.fVoters.length cp0_0, .string p0.fRaft.fHard.fSnap, .int .i64 p0.fRaft.fHard.fLog.fBase, .int .i64 p0.fRaft.fHard.fLog.fBaseTerm, .slice Ap0_1 p0.fRaft.fHard.fLog.fEntries.length cp0_1, .slice Ap0_2 p0.fRaft.fVotes.length cp0_2, .slice A15 x13.length c16] 84 (0, 0)) :: H, (100360, ⟨.slice A15 x13.length c16, 105, 3, x13.length, x13.flatMap GMark.enc⟩) :: R, φ⟩ (fun _ h => h) <| c_seq <| c_seq <| c_region <| g_v rfl (r_field (n := 7) Try.underlying25 rfl Try.sizeOf4 rfl rfl) <| g_v rfl (r_load (tag := 100030) rfl rfl rfl Try.isAgg4) <| g_nil <| d_then ?_
 refine c_cond rfl (fun h22 => ?_) (fun h22 => ?_)
 ·
  replace hm := ite_t hm h22
  refine c_seq <| ga_start (n := 11) ⟨w0, M, (100030, g2, .cells #[.int .i64 p1.fKind, .int .i64 p1.fFrom, .int .i64 p1.fTo, .int .i64 p1.fTerm, .int .i64 p1.fIndex, .int .i64 p1.fLogTerm, .int .i64 p1.fCommit, .bool p1.fGood, .slice Ap1_0 p1.fEntries.length cp1_0, .slice Ap1_1 p1.fVoters.length cp1_1, .string p1.fSnap] 25 (0, 0)) :: (100040, g3, .cells #[.int .i64 0, .int .i64 0, .int .i64 0, .int .i64 0, .int .i64 0, .int .i64 0, .int .i64 0, .slice none 0 0, .string (⟨#[]⟩ : ByteArray), .int .i64 0, .int .i64 0, .slice none 0 0, .slice none 0 0, .slice none 0 0] 84 (0, 0)) :: (100020, g1, .cells #[.int .i64 p0.fRaft.fMe, .int .i64 p0.fRaft.fRole, .int .i64 p0.fRaft.fLeader, .int .i64 p0.fRaft.fCommit, .int .i64 p0.fRaft.fLeft, .int .i64 p0.fRaft.fHard.fTerm, .int .i64 p0.fRaft.fHard.fVote, .slice Ap0_0 p0.fRaft.fHard.fVoters.length cp0_0, .string p0.fRaft.fHard.fSnap, .int .i64 p0.fRaft.fHard.fLog.fBase, .int .i64 p0.fRaft.fHard.fLog.fBaseTerm, .slice Ap0_1 p0.fRaft.fHard.fLog.fEntries.length cp0_1, .slice Ap0_2 p0.fRaft.fVotes.length cp0_2, .slice A15 x13.length c16] 84 (0, 0)) :: H, (100360, ⟨.slice A15 x13.length c16, 105, 3, x13.length, x13.flatMap GMark.enc⟩) :: R, φ⟩ [10] #[false, false, false, false, false, false, false, false, false, false, false] (fun W h => h.phi (fun W hφ => hφ)) mixed rfl rfl <| ga_v (i := 0) (bz 11 1) rfl (by kernel_rfl) (fun _ _ _ _ h => h) rfl (r_move) <| ga_v (i := 1) (bz 11 3) rfl (by kernel_rfl) (fun _ _ _ _ h => h) rfl (r_move) <| ga_v (i := 2) (bz 11 7) rfl (by kernel_rfl) (fun _ _ _ _ h => h) rfl (r_nilck rfl) ?_
  have f33 := fun (W : World) (h : (Sta.ok ⟨w0, M, (100030, g2, .cells #[.int .i64 p1.fKind, .int .i64 p1.fFrom, .int .i64 p1.fTo, .int .i64 p1.fTerm, .int .i64 p1.fIndex, .int .i64 p1.fLogTerm, .int .i64 p1.fCommit, .bool p1.fGood, .slice Ap1_0 p1.fEntries.length cp1_0, .slice Ap1_1 p1.fVoters.length cp1_1, .string p1.fSnap] 25 (0, 0)) :: (100040, g3, .cells #[.int .i64 0, .int .i64 0, .int .i64 0, .int .i64 0, .int .i64 0, .int .i64 0, .int .i64 0, .slice none 0 0, .string (⟨#[]⟩ : ByteArray), .int .i64 0, .int .i64 0, .slice none 0 0, .slice none 0 0, .slice none 0 0] 84 (0, 0)) :: (100020, g1, .cells #[.int .i64 p0.fRaft.fMe, .int .i64 p0.fRaft.fRole, .int .i64 p0.fRaft.fLeader, .int .i64 p0.fRaft.fCommit, .int .i64 p0.fRaft.fLeft, .int .i64 p0.fRaft.fHard.fTerm, .int .i64 p0.fRaft.fHard.fVote, .slice Ap0_0 p0.fRaft.fHard.fVoters.length cp0_0, .string p0.fRaft.fHard.fSnap, .int .i64 p0.fRaft.fHard.fLog.fBase, .int .i64 p0.fRaft.fHard.fLog.fBaseTerm, .slice Ap0_1 p0.fRaft.fHard.fLog.fEntries.length cp0_1, .slice Ap0_2 p0.fRaft.fVotes.length cp0_2, .slice A15 x13.length c16] 84 (0, 0)) :: H, (100360, ⟨.slice A15 x13.length c16, 105, 3, x13.length, x13.flatMap GMark.enc⟩) :: R, φ⟩) W) => Cl.drop (f20 W h) 2
  refine ga_v (i := 3) (bz 11 15) rfl (by kernel_rfl) (fun _ _ _ _ h => h) rfl (r_fieldF Try.underlying105 rfl Try.sizeOf3 rfl) <| ga_v (i := 4) (bz 11 31) rfl (by kernel_rfl) (fun _ _ _ _ h => h) rfl (r_ld rfl Try.isAgg3 (fun W hS => Cl.head (f33 W hS))) <| ga_r (i := 5) (bz 11 63) rfl (by kernel_rfl) (by decide) rfl (r_field (n := 4) Try.underlying25 rfl Try.sizeOf3 rfl rfl) <| ga_r (i := 6) (bz 11 127) rfl (by kernel_rfl) (by decide) rfl (r_load (tag := 100030) rfl rfl rfl Try.isAgg3) <| ga_r (i := 7) (bz 11 255) rfl (by kernel_rfl) (by decide) rfl (r_max rfl rfl) <| ga_r (i := 8) (bz 11 511) rfl (by kernel_rfl) (by decide) rfl (r_nilck rfl) ?_
  have f34 := fun (W : World) (h : (Sta.ok ⟨w0, M, (100030, g2, .cells #[.int .i64 p1.fKind, .int .i64 p1.fFrom, .int .i64 p1.fTo, .int .i64 p1.fTerm, .int .i64 p1.fIndex, .int .i64 p1.fLogTerm, .int .i64 p1.fCommit, .bool p1.fGood, .slice Ap1_0 p1.fEntries.length cp1_0, .slice Ap1_1 p1.fVoters.length cp1_1, .string p1.fSnap] 25 (0, 0)) :: (100040, g3, .cells #[.int .i64 0, .int .i64 0, .int .i64 0, .int .i64 0, .int .i64 0, .int .i64 0, .int .i64 0, .slice none 0 0, .string (⟨#[]⟩ : ByteArray), .int .i64 0, .int .i64 0, .slice none 0 0, .slice none 0 0, .slice none 0 0] 84 (0, 0)) :: (100020, g1, .cells #[.int .i64 p0.fRaft.fMe, .int .i64 p0.fRaft.fRole, .int .i64 p0.fRaft.fLeader, .int .i64 p0.fRaft.fCommit, .int .i64 p0.fRaft.fLeft, .int .i64 p0.fRaft.fHard.fTerm, .int .i64 p0.fRaft.fHard.fVote, .slice Ap0_0 p0.fRaft.fHard.fVoters.length cp0_0, .string p0.fRaft.fHard.fSnap, .int .i64 p0.fRaft.fHard.fLog.fBase, .int .i64 p0.fRaft.fHard.fLog.fBaseTerm, .slice Ap0_1 p0.fRaft.fHard.fLog.fEntries.length cp0_1, .slice Ap0_2 p0.fRaft.fVotes.length cp0_2, .slice A15 x13.length c16] 84 (0, 0)) :: H, (100360, ⟨.slice A15 x13.length c16, 105, 3, x13.length, x13.flatMap GMark.enc⟩) :: R, φ⟩) W) => Cl.drop (f20 W h) 2
  refine ga_r (i := 9) (bz 11 1023) rfl (by kernel_rfl) (by decide) rfl (r_fieldF Try.underlying105 rfl Try.sizeOf3 rfl) ?_
  replace hm := bnd hm
  obtain ⟨l35, hl35, hm⟩ := hm
  refine ga_sL (i := 10) (bz 11 2047) rfl (by kernel_rfl) (by decide) (e_stR (tag := 100360) (enc := GMark.enc) (l := x13) (off := 2) (vs := [.int .i64 (max x18.fMatch p1.fIndex)]) rfl hA21 rfl rfl hx18 hl35 rfl (Nat.le_of_ble_eq_true rfl) (fun _ => rfl) rfl rfl Try.sizeOf3) ?_
  rw [show x13.length = l35.length from (setAt_lenE hl35).symm]
  have hv37 := setAt_at hl35
  have f36 := cl_at2 (p := (Sta.ok ⟨w0, M, (100030, g2, .cells #[.int .i64 p1.fKind, .int .i64 p1.fFrom, .int .i64 p1.fTo, .int .i64 p1.fTerm, .int .i64 p1.fIndex, .int .i64 p1.fLogTerm, .int .i64 p1.fCommit, .bool p1.fGood, .slice Ap1_0 p1.fEntries.length cp1_0, .slice Ap1_1 p1.fVoters.length cp1_1, .string p1.fSnap] 25 (0, 0)) :: (100040, g3, .cells #[.int .i64 0, .int .i64 0, .int .i64 0, .int .i64 0, .int .i64 0, .int .i64 0, .int .i64 0, .slice none 0 0, .string (⟨#[]⟩ : ByteArray), .int .i64 0, .int .i64 0, .slice none 0 0, .slice none 0 0, .slice none 0 0] 84 (0, 0)) :: (100020, g1, .cells #[.int .i64 p0.fRaft.fMe, .int .i64 p0.fRaft.fRole, .int .i64 p0.fRaft.fLeader, .int .i64 p0.fRaft.fCommit, .int .i64 p0.fRaft.fLeft, .int .i64 p0.fRaft.fHard.fTerm, .int .i64 p0.fRaft.fHard.fVote, .slice Ap0_0 p0.fRaft.fHard.fVoters.length cp0_0, .string p0.fRaft.fHard.fSnap, .int .i64 p0.fRaft.fHard.fLog.fBase, .int .i64 p0.fRaft.fHard.fLog.fBaseTerm, .slice Ap0_1 p0.fRaft.fHard.fLog.fEntries.length cp0_1, .slice Ap0_2 p0.fRaft.fVotes.length cp0_2, .slice A15 l35.length c16] 84 (0, 0)) :: H, (100360, ⟨.slice A15 l35.length c16, 105, 3, l35.length, l35.flatMap GMark.enc⟩) :: R, φ⟩)) (enc := GMark.enc) (sz := 3) (fun _ => rfl) hA21 (fun W hS => rowCl (S := ⟨w0, M, (100030, g2, .cells #[.int .i64 p1.fKind, .int .i64 p1.fFrom, .int .i64 p1.fTo, .int .i64 p1.fTerm, .int .i64 p1.fIndex, .int .i64 p1.fLogTerm, .int .i64 p1.fCommit, .bool p1.fGood, .slice Ap1_0 p1.fEntries.length cp1_0, .slice Ap1_1 p1.fVoters.length cp1_1, .string p1.fSnap] 25 (0, 0)) :: (100040, g3, .cells #[.int .i64 0, .int .i64 0, .int .i64 0, .int .i64 0, .int .i64 0, .int .i64 0, .int .i64 0, .slice none 0 0, .string (⟨#[]⟩ : ByteArray), .int .i64 0, .int .i64 0, .slice none 0 0, .slice none 0 0, .slice none 0 0] 84 (0, 0)) :: (100020, g1, .cells #[.int .i64 p0.fRaft.fMe, .int .i64 p0.fRaft.fRole, .int .i64 p0.fRaft.fLeader, .int .i64 p0.fRaft.fCommit, .int .i64 p0.fRaft.fLeft, .int .i64 p0.fRaft.fHard.fTerm, .int .i64 p0.fRaft.fHard.fVote, .slice Ap0_0 p0.fRaft.fHard.fVoters.length cp0_0, .string p0.fRaft.fHard.fSnap, .int .i64 p0.fRaft.fHard.fLog.fBase, .int .i64 p0.fRaft.fHard.fLog.fBaseTerm, .slice Ap0_1 p0.fRaft.fHard.fLog.fEntries.length cp0_1, .slice Ap0_2 p0.fRaft.fVotes.length cp0_2, .slice A15 l35.length c16] 84 (0, 0)) :: H, (100360, ⟨.slice A15 l35.length c16, 105, 3, l35.length, l35.flatMap GMark.enc⟩) :: R, φ⟩) (tag := 100360) rfl W hS) hv37
  refine gz_done (by kernel_rfl) <| d_then ?_
  refine c_flat [(2, .pointer (some ⟨g1, 0, none⟩)), (4, .pointer (some ⟨g3, 0, none⟩)), (9, .pointer (some (ad19.add (x4.toNat * 3))))] ⟨rfl, rfl, rfl, trivial⟩ (fun u => ?_)
  refine c_sta ⟨w0, M, (100030, g2, .cells #[.int .i64 p1.fKind, .int .i64 p1.fFrom, .int .i64 p1.fTo, .int .i64 p1.fTerm, .int .i64 p1.fIndex, .int .i64 p1.fLogTerm, .int .i64 p1.fCommit, .bool p1.fGood, .slice Ap1_0 p1.fEntries.length cp1_0, .slice Ap1_1 p1.fVoters.length cp1_1, .string p1.fSnap] 25 (0, 0)) :: (100040, g3, .cells #[.int .i64 0, .int .i64 0, .int .i64 0, .int .i64 0, .int .i64 0, .int .i64 0, .int .i64 0, .slice none 0 0, .string (⟨#[]⟩ : ByteArray), .int .i64 0, .int .i64 0, .slice none 0 0, .slice none 0 0, .slice none 0 0] 84 (0, 0)) :: (100020, g1, .cells #[.int .i64 p0.fRaft.fMe, .int .i64 p0.fRaft.fRole, .int .i64 p0.fRaft.fLeader, .int .i64 p0.fRaft.fCommit, .int .i64 p0.fRaft.fLeft, .int .i64 p0.fRaft.fHard.fTerm, .int .i64 p0.fRaft.fHard.fVote, .slice Ap0_0 p0.fRaft.fHard.fVoters.length cp0_0, .string p0.fRaft.fHard.fSnap, .int .i64 p0.fRaft.fHard.fLog.fBase, .int .i64 p0.fRaft.fHard.fLog.fBaseTerm, .slice Ap0_1 p0.fRaft.fHard.fLog.fEntries.length cp0_1, .slice Ap0_2 p0.fRaft.fVotes.length cp0_2, .slice A15 l35.length c16] 84 (0, 0)) :: H, (100360, ⟨.slice A15 l35.length c16, 105, 3, l35.length, l35.flatMap GMark.enc⟩) :: R, φ⟩ (fun _ h => h) <| c_seq <| c_region <| g_v rfl r_move <| g_v rfl r_move <| g_v rfl (r_nilck rfl) ?_
  have f38 := fun (W : World) (h : (Sta.ok ⟨w0, M, (100030, g2, .cells #[.int .i64 p1.fKind, .int .i64 p1.fFrom, .int .i64 p1.fTo, .int .i64 p1.fTerm, .int .i64 p1.fIndex, .int .i64 p1.fLogTerm, .int .i64 p1.fCommit, .bool p1.fGood, .slice Ap1_0 p1.fEntries.length cp1_0, .slice Ap1_1 p1.fVoters.length cp1_1, .string p1.fSnap] 25 (0, 0)) :: (100040, g3, .cells #[.int .i64 0, .int .i64 0, .int .i64 0, .int .i64 0, .int .i64 0, .int .i64 0, .int .i64 0, .slice none 0 0, .string (⟨#[]⟩ : ByteArray), .int .i64 0, .int .i64 0, .slice none 0 0, .slice none 0 0, .slice none 0 0] 84 (0, 0)) :: (100020, g1, .cells #[.int .i64 p0.fRaft.fMe, .int .i64 p0.fRaft.fRole, .int .i64 p0.fRaft.fLeader, .int .i64 p0.fRaft.fCommit, .int .i64 p0.fRaft.fLeft, .int .i64 p0.fRaft.fHard.fTerm, .int .i64 p0.fRaft.fHard.fVote, .slice Ap0_0 p0.fRaft.fHard.fVoters.length cp0_0, .string p0.fRaft.fHard.fSnap, .int .i64 p0.fRaft.fHard.fLog.fBase, .int .i64 p0.fRaft.fHard.fLog.fBaseTerm, .slice Ap0_1 p0.fRaft.fHard.fLog.fEntries.length cp0_1, .slice Ap0_2 p0.fRaft.fVotes.length cp0_2, .slice A15 l35.length c16] 84 (0, 0)) :: H, (100360, ⟨.slice A15 l35.length c16, 105, 3, l35.length, l35.flatMap GMark.enc⟩) :: R, φ⟩) W) => Cl.drop (f36 W h) 2
  refine g_v rfl (r_fieldF Try.underlying105 rfl Try.sizeOf3 rfl) <| g_v rfl (r_ld rfl Try.isAgg3 (fun W hS => Cl.head (f38 W hS))) <| g_v rfl (r_add rfl rfl rfl) <| g_v rfl (r_nilck rfl) ?_
  have f39 := fun (W : World) (h : (Sta.ok ⟨w0, M, (100030, g2, .cells #[.int .i64 p1.fKind, .int .i64 p1.fFrom, .int .i64 p1.fTo, .int .i64 p1.fTerm, .int .i64 p1.fIndex, .int .i64 p1.fLogTerm, .int .i64 p1.fCommit, .bool p1.fGood, .slice Ap1_0 p1.fEntries.length cp1_0, .slice Ap1_1 p1.fVoters.length cp1_1, .string p1.fSnap] 25 (0, 0)) :: (100040, g3, .cells #[.int .i64 0, .int .i64 0, .int .i64 0, .int .i64 0, .int .i64 0, .int .i64 0, .int .i64 0, .slice none 0 0, .string (⟨#[]⟩ : ByteArray), .int .i64 0, .int .i64 0, .slice none 0 0, .slice none 0 0, .slice none 0 0] 84 (0, 0)) :: (100020, g1, .cells #[.int .i64 p0.fRaft.fMe, .int .i64 p0.fRaft.fRole, .int .i64 p0.fRaft.fLeader, .int .i64 p0.fRaft.fCommit, .int .i64 p0.fRaft.fLeft, .int .i64 p0.fRaft.fHard.fTerm, .int .i64 p0.fRaft.fHard.fVote, .slice Ap0_0 p0.fRaft.fHard.fVoters.length cp0_0, .string p0.fRaft.fHard.fSnap, .int .i64 p0.fRaft.fHard.fLog.fBase, .int .i64 p0.fRaft.fHard.fLog.fBaseTerm, .slice Ap0_1 p0.fRaft.fHard.fLog.fEntries.length cp0_1, .slice Ap0_2 p0.fRaft.fVotes.length cp0_2, .slice A15 l35.length c16] 84 (0, 0)) :: H, (100360, ⟨.slice A15 l35.length c16, 105, 3, l35.length, l35.flatMap GMark.enc⟩) :: R, φ⟩) W) => Cl.drop (f36 W h) 1
  refine g_v rfl (r_fieldF Try.underlying105 rfl Try.sizeOf3 rfl) ?_
  replace hm := bnd hm
  obtain ⟨l40, hl40, hm⟩ := hm
  refine g_stR (tag := 100360) (enc := GMark.enc) (l := l35) (off := 1) (vs := [.int .i64 (w64 ((max x18.fMatch p1.fIndex) + 1))]) rfl hA21 rfl rfl hv37 hl40 rfl (Nat.le_of_ble_eq_true rfl) (fun _ => rfl) rfl rfl Try.sizeOf3 ?_
  rw [show l35.length = l40.length from (setAt_lenE hl40).symm]
  have hv42 := setAt_at hl40
  have f41 := cl_at2 (p := (Sta.ok ⟨w0, M, (100030, g2, .cells #[.int .i64 p1.fKind, .int .i64 p1.fFrom, .int .i64 p1.fTo, .int .i64 p1.fTerm, .int .i64 p1.fIndex, .int .i64 p1.fLogTerm, .int .i64 p1.fCommit, .bool p1.fGood, .slice Ap1_0 p1.fEntries.length cp1_0, .slice Ap1_1 p1.fVoters.length cp1_1, .string p1.fSnap] 25 (0, 0)) :: (100040, g3, .cells #[.int .i64 0, .int .i64 0, .int .i64 0, .int .i64 0, .int .i64 0, .int .i64 0, .int .i64 0, .slice none 0 0, .string (⟨#[]⟩ : ByteArray), .int .i64 0, .int .i64 0, .slice none 0 0, .slice none 0 0, .slice none 0 0] 84 (0, 0)) :: (100020, g1, .cells #[.int .i64 p0.fRaft.fMe, .int .i64 p0.fRaft.fRole, .int .i64 p0.fRaft.fLeader, .int .i64 p0.fRaft.fCommit, .int .i64 p0.fRaft.fLeft, .int .i64 p0.fRaft.fHard.fTerm, .int .i64 p0.fRaft.fHard.fVote, .slice Ap0_0 p0.fRaft.fHard.fVoters.length cp0_0, .string p0.fRaft.fHard.fSnap, .int .i64 p0.fRaft.fHard.fLog.fBase, .int .i64 p0.fRaft.fHard.fLog.fBaseTerm, .slice Ap0_1 p0.fRaft.fHard.fLog.fEntries.length cp0_1, .slice Ap0_2 p0.fRaft.fVotes.length cp0_2, .slice A15 l40.length c16] 84 (0, 0)) :: H, (100360, ⟨.slice A15 l40.length c16, 105, 3, l40.length, l40.flatMap GMark.enc⟩) :: R, φ⟩)) (enc := GMark.enc) (sz := 3) (fun _ => rfl) hA21 (fun W hS => rowCl (S := ⟨w0, M, (100030, g2, .cells #[.int .i64 p1.fKind, .int .i64 p1.fFrom, .int .i64 p1.fTo, .int .i64 p1.fTerm, .int .i64 p1.fIndex, .int .i64 p1.fLogTerm, .int .i64 p1.fCommit, .bool p1.fGood, .slice Ap1_0 p1.fEntries.length cp1_0, .slice Ap1_1 p1.fVoters.length cp1_1, .string p1.fSnap] 25 (0, 0)) :: (100040, g3, .cells #[.int .i64 0, .int .i64 0, .int .i64 0, .int .i64 0, .int .i64 0, .int .i64 0, .int .i64 0, .slice none 0 0, .string (⟨#[]⟩ : ByteArray), .int .i64 0, .int .i64 0, .slice none 0 0, .slice none 0 0, .slice none 0 0] 84 (0, 0)) :: (100020, g1, .cells #[.int .i64 p0.fRaft.fMe, .int .i64 p0.fRaft.fRole, .int .i64 p0.fRaft.fLeader, .int .i64 p0.fRaft.fCommit, .int .i64 p0.fRaft.fLeft, .int .i64 p0.fRaft.fHard.fTerm, .int .i64 p0.fRaft.fHard.fVote, .slice Ap0_0 p0.fRaft.fHard.fVoters.length cp0_0, .string p0.fRaft.fHard.fSnap, .int .i64 p0.fRaft.fHard.fLog.fBase, .int .i64 p0.fRaft.fHard.fLog.fBaseTerm, .slice Ap0_1 p0.fRaft.fHard.fLog.fEntries.length cp0_1, .slice Ap0_2 p0.fRaft.fVotes.length cp0_2, .slice A15 l40.length c16] 84 (0, 0)) :: H, (100360, ⟨.slice A15 l40.length c16, 105, 3, l40.length, l40.flatMap GMark.enc⟩) :: R, φ⟩) (tag := 100360) rfl W hS) hv42
  refine g_nil <| d_then ?_
  refine c_flat [(2, .pointer (some ⟨g1, 0, none⟩)), (4, .pointer (some ⟨g3, 0, none⟩))] ⟨rfl, rfl, trivial⟩ (fun u => ?_)
  refine c_sta ⟨w0, M, (100030, g2, .cells #[.int .i64 p1.fKind, .int .i64 p1.fFrom, .int .i64 p1.fTo, .int .i64 p1.fTerm, .int .i64 p1.fIndex, .int .i64 p1.fLogTerm, .int .i64 p1.fCommit, .bool p1.fGood, .slice Ap1_0 p1.fEntries.length cp1_0, .slice Ap1_1 p1.fVoters.length cp1_1, .string p1.fSnap] 25 (0, 0)) :: (100040, g3, .cells #[.int .i64 0, .int .i64 0, .int .i64 0, .int .i64 0, .int .i64 0, .int .i64 0, .int .i64 0, .slice none 0 0, .string (⟨#[]⟩ : ByteArray), .int .i64 0, .int .i64 0, .slice none 0 0, .slice none 0 0, .slice none 0 0] 84 (0, 0)) :: (100020, g1, .cells #[.int .i64 p0.fRaft.fMe, .int .i64 p0.fRaft.fRole, .int .i64 p0.fRaft.fLeader, .int .i64 p0.fRaft.fCommit, .int .i64 p0.fRaft.fLeft, .int .i64 p0.fRaft.fHard.fTerm, .int .i64 p0.fRaft.fHard.fVote, .slice Ap0_0 p0.fRaft.fHard.fVoters.length cp0_0, .string p0.fRaft.fHard.fSnap, .int .i64 p0.fRaft.fHard.fLog.fBase, .int .i64 p0.fRaft.fHard.fLog.fBaseTerm, .slice Ap0_1 p0.fRaft.fHard.fLog.fEntries.length cp0_1, .slice Ap0_2 p0.fRaft.fVotes.length cp0_2, .slice A15 l40.length c16] 84 (0, 0)) :: H, (100360, ⟨.slice A15 l40.length c16, 105, 3, l40.length, l40.flatMap GMark.enc⟩) :: R, φ⟩ (fun _ h => h) <| c_seq <| c_region <| g_v rfl (r_loadA (tag := 100020) rfl rfl Try.isAgg84 Try.sizeOf84 rfl rfl) ?_
  refine g_shut (tag := 100360) rfl (fun φ43 q43' => ?_)
  have q43 : ∀ W, φ43 W → φ W := fun W h => (q43' W h).1
  have f44 := fun (W : World) (h : φ43 W) => (q43' W h).2
  replace hm := bnd hm
  obtain ⟨x45, hx46, hm⟩ := hm
  refine g_cn ⟨w0, M, _, _, φ43⟩ (fun _ h => h) Try.call46 rfl rfl (c_raft_state_commit (⟨(⟨p0.fRaft.fMe, p0.fRaft.fRole, p0.fRaft.fLeader, p0.fRaft.fCommit, p0.fRaft.fLeft, p0.fRaft.fHard, p0.fRaft.fVotes, l40⟩ : GRaft)⟩ : Graft_state) Ap0_0 cp0_0 hcp0_0 (fun W h => fp0_0 W (q43 _ h)) Ap0_1 cp0_1 hcp0_1 (fun W h => fp0_1 W (q43 _ h)) Ap0_2 cp0_2 hcp0_2 (fun W h => fp0_2 W (q43 _ h)) A15 c16 (setAt_len (setAt_len hc16 hl35) hl40) (fun W h => f44 W h) _ hx46) (fun ⟨A47, c48, A50, c51, A53, c54, A56, c57⟩ ⟨hc48, hc51, hc54, hc57⟩ => ?_)
  refine g_abs (fun φ59 q59' => ?_)
  have q59 : ∀ W, φ59 W → φ43 W := fun W h => (q59' W h).1
  have f49 := fun (W : World) (h : φ59 W) => (q59' W h).2.1
  have f52 := fun (W : World) (h : φ59 W) => (q59' W h).2.2.1
  have f55 := fun (W : World) (h : φ59 W) => (q59' W h).2.2.2.1
  have f58 := fun (W : World) (h : φ59 W) => (q59' W h).2.2.2.2
  refine g_storeL (tag := 100040) rfl rfl rfl rfl Try.sizeOf84 rfl rfl <| g_v rfl r_assign <| g_nil <| d_then <| c_ret <| d_ret_then ?_
  cases hm
  refine d_sta _ (fun W h => nilR h 13 25 11) <| d_sta _ (fun W h => ok_frontR (t := 13) (t' := 2004) h rfl) ?_
  exact d_retC (A47, c48, A50, c51, A53, c54, A56, c57, none, 0, ([] : List GNoteP)) Try.results60 (res_agg (tag := 100040) rfl rfl Try.isAgg84 Try.sizeOf84 (res_tmp (res_nil rfl))) ⟨hc48, hc51, hc54, hc57, ⟨DOk.nil, (Nat.le_refl 0)⟩⟩ (fun W h => (((h.dropH (t := 100030) rfl).dropH (t := 100040) rfl).dropH (t := 100020) rfl).phi (fun W hφ => ⟨(q43 _ (q59 _ hφ)), (fun W h => f49 W h) W hφ, (fun W h => f52 W h) W hφ, (fun W h => f55 W h) W hφ, (fun W h => f58 W h) W hφ, (fun W h => DOwn.nil) W hφ⟩)) (.inr rfl)
 replace hm := ite_f hm (bool_nt h22)
 refine c_skip <| d_then <| c_seq <| ga_start (n := 19) ⟨w0, M, (100030, g2, .cells #[.int .i64 p1.fKind, .int .i64 p1.fFrom, .int .i64 p1.fTo, .int .i64 p1.fTerm, .int .i64 p1.fIndex, .int .i64 p1.fLogTerm, .int .i64 p1.fCommit, .bool p1.fGood, .slice Ap1_0 p1.fEntries.length cp1_0, .slice Ap1_1 p1.fVoters.length cp1_1, .string p1.fSnap] 25 (0, 0)) :: (100040, g3, .cells #[.int .i64 0, .int .i64 0, .int .i64 0, .int .i64 0, .int .i64 0, .int .i64 0, .int .i64 0, .slice none 0 0, .string (⟨#[]⟩ : ByteArray), .int .i64 0, .int .i64 0, .slice none 0 0, .slice none 0 0, .slice none 0 0] 84 (0, 0)) :: (100020, g1, .cells #[.int .i64 p0.fRaft.fMe, .int .i64 p0.fRaft.fRole, .int .i64 p0.fRaft.fLeader, .int .i64 p0.fRaft.fCommit, .int .i64 p0.fRaft.fLeft, .int .i64 p0.fRaft.fHard.fTerm, .int .i64 p0.fRaft.fHard.fVote, .slice Ap0_0 p0.fRaft.fHard.fVoters.length cp0_0, .string p0.fRaft.fHard.fSnap, .int .i64 p0.fRaft.fHard.fLog.fBase, .int .i64 p0.fRaft.fHard.fLog.fBaseTerm, .slice Ap0_1 p0.fRaft.fHard.fLog.fEntries.length cp0_1, .slice Ap0_2 p0.fRaft.fVotes.length cp0_2, .slice A15 x13.length c16] 84 (0, 0)) :: H, (100360, ⟨.slice A15 x13.length c16, 105, 3, x13.length, x13.flatMap GMark.enc⟩) :: R, φ⟩ [18] #[false, false, false, false, false, false, false, false, false, false, false, false, false, false, false, false, false, false, false] (fun W h => h.phi (fun W hφ => hφ)) mixed rfl rfl <| ga_v (i := 0) (bz 19 1) rfl (by kernel_rfl) (fun _ _ _ _ h => h) rfl (r_move) <| ga_v (i := 1) (bz 19 3) rfl (by kernel_rfl) (fun _ _ _ _ h => h) rfl (r_move) <| ga_v (i := 2) (bz 19 7) rfl (by kernel_rfl) (fun _ _ _ _ h => h) rfl (r_nilck rfl) ?_
 have f72 := fun (W : World) (h : (Sta.ok ⟨w0, M, (100030, g2, .cells #[.int .i64 p1.fKind, .int .i64 p1.fFrom, .int .i64 p1.fTo, .int .i64 p1.fTerm, .int .i64 p1.fIndex, .int .i64 p1.fLogTerm, .int .i64 p1.fCommit, .bool p1.fGood, .slice Ap1_0 p1.fEntries.length cp1_0, .slice Ap1_1 p1.fVoters.length cp1_1, .string p1.fSnap] 25 (0, 0)) :: (100040, g3, .cells #[.int .i64 0, .int .i64 0, .int .i64 0, .int .i64 0, .int .i64 0, .int .i64 0, .int .i64 0, .slice none 0 0, .string (⟨#[]⟩ : ByteArray), .int .i64 0, .int .i64 0, .slice none 0 0, .slice none 0 0, .slice none 0 0] 84 (0, 0)) :: (100020, g1, .cells #[.int .i64 p0.fRaft.fMe, .int .i64 p0.fRaft.fRole, .int .i64 p0.fRaft.fLeader, .int .i64 p0.fRaft.fCommit, .int .i64 p0.fRaft.fLeft, .int .i64 p0.fRaft.fHard.fTerm, .int .i64 p0.fRaft.fHard.fVote, .slice Ap0_0 p0.fRaft.fHard.fVoters.length cp0_0, .string p0.fRaft.fHard.fSnap, .int .i64 p0.fRaft.fHard.fLog.fBase, .int .i64 p0.fRaft.fHard.fLog.fBaseTerm, .slice Ap0_1 p0.fRaft.fHard.fLog.fEntries.length cp0_1, .slice Ap0_2 p0.fRaft.fVotes.length cp0_2, .slice A15 x13.length c16] 84 (0, 0)) :: H, (100360, ⟨.slice A15 x13.length c16, 105, 3, x13.length, x13.flatMap GMark.enc⟩) :: R, φ⟩) W) => Cl.drop (f20 W h) 2
 refine ga_v (i := 3) (bz 19 15) rfl (by kernel_rfl) (fun _ _ _ _ h => h) rfl (r_fieldF Try.underlying105 rfl Try.sizeOf3 rfl) <| ga_v (i := 4) (bz 19 31) rfl (by kernel_rfl) (fun _ _ _ _ h => h) rfl (r_ld rfl Try.isAgg3 (fun W hS => Cl.head (f72 W hS))) <| ga_v (i := 5) (bz 19 63) rfl (by kernel_rfl) (fun _ _ _ _ h => h) rfl (r_add rfl rfl rfl) <| ga_v (i := 6) (bz 19 127) rfl (by kernel_rfl) (fun _ _ _ _ h => h) rfl (r_move) <| ga_v (i := 7) (bz 19 255) rfl (by kernel_rfl) (fun _ _ _ _ h => h) rfl (r_nilck rfl) ?_
 have f73 := fun (W : World) (h : (Sta.ok ⟨w0, M, (100030, g2, .cells #[.int .i64 p1.fKind, .int .i64 p1.fFrom, .int .i64 p1.fTo, .int .i64 p1.fTerm, .int .i64 p1.fIndex, .int .i64 p1.fLogTerm, .int .i64 p1.fCommit, .bool p1.fGood, .slice Ap1_0 p1.fEntries.length cp1_0, .slice Ap1_1 p1.fVoters.length cp1_1, .string p1.fSnap] 25 (0, 0)) :: (100040, g3, .cells #[.int .i64 0, .int .i64 0, .int .i64 0, .int .i64 0, .int .i64 0, .int .i64 0, .int .i64 0, .slice none 0 0, .string (⟨#[]⟩ : ByteArray), .int .i64 0, .int .i64 0, .slice none 0 0, .slice none 0 0, .slice none 0 0] 84 (0, 0)) :: (100020, g1, .cells #[.int .i64 p0.fRaft.fMe, .int .i64 p0.fRaft.fRole, .int .i64 p0.fRaft.fLeader, .int .i64 p0.fRaft.fCommit, .int .i64 p0.fRaft.fLeft, .int .i64 p0.fRaft.fHard.fTerm, .int .i64 p0.fRaft.fHard.fVote, .slice Ap0_0 p0.fRaft.fHard.fVoters.length cp0_0, .string p0.fRaft.fHard.fSnap, .int .i64 p0.fRaft.fHard.fLog.fBase, .int .i64 p0.fRaft.fHard.fLog.fBaseTerm, .slice Ap0_1 p0.fRaft.fHard.fLog.fEntries.length cp0_1, .slice Ap0_2 p0.fRaft.fVotes.length cp0_2, .slice A15 x13.length c16] 84 (0, 0)) :: H, (100360, ⟨.slice A15 x13.length c16, 105, 3, x13.length, x13.flatMap GMark.enc⟩) :: R, φ⟩) W) => Cl.drop (f20 W h) 1
 refine ga_v (i := 8) (bz 19 511) rfl (by kernel_rfl) (fun _ _ _ _ h => h) rfl (r_fieldF Try.underlying105 rfl Try.sizeOf3 rfl) <| ga_v (i := 9) (bz 19 1023) rfl (by kernel_rfl) (fun _ _ _ _ h => h) rfl (r_ld rfl Try.isAgg3 (fun W hS => Cl.head (f73 W hS))) <| ga_v (i := 10) (bz 19 2047) rfl (by kernel_rfl) (fun _ _ _ _ h => h) rfl (r_sub rfl rfl rfl) <| ga_r (i := 11) (bz 19 4095) rfl (by kernel_rfl) (by decide) rfl (r_field (n := 4) Try.underlying25 rfl Try.sizeOf3 rfl rfl) <| ga_r (i := 12) (bz 19 8191) rfl (by kernel_rfl) (by decide) rfl (r_load (tag := 100030) rfl rfl rfl Try.isAgg3) <| ga_r (i := 13) (bz 19 16383) rfl (by kernel_rfl) (by decide) rfl (r_add rfl rfl rfl) <| ga_r (i := 14) (bz 19 32767) rfl (by kernel_rfl) (by decide) rfl (r_min rfl rfl) <| ga_r (i := 15) (bz 19 65535) rfl (by kernel_rfl) (by decide) rfl (r_max rfl rfl) <| ga_r (i := 16) (bz 19 131071) rfl (by kernel_rfl) (by decide) rfl (r_nilck rfl) ?_
 have f74 := fun (W : World) (h : (Sta.ok ⟨w0, M, (100030, g2, .cells #[.int .i64 p1.fKind, .int .i64 p1.fFrom, .int .i64 p1.fTo, .int .i64 p1.fTerm, .int .i64 p1.fIndex, .int .i64 p1.fLogTerm, .int .i64 p1.fCommit, .bool p1.fGood, .slice Ap1_0 p1.fEntries.length cp1_0, .slice Ap1_1 p1.fVoters.length cp1_1, .string p1.fSnap] 25 (0, 0)) :: (100040, g3, .cells #[.int .i64 0, .int .i64 0, .int .i64 0, .int .i64 0, .int .i64 0, .int .i64 0, .int .i64 0, .slice none 0 0, .string (⟨#[]⟩ : ByteArray), .int .i64 0, .int .i64 0, .slice none 0 0, .slice none 0 0, .slice none 0 0] 84 (0, 0)) :: (100020, g1, .cells #[.int .i64 p0.fRaft.fMe, .int .i64 p0.fRaft.fRole, .int .i64 p0.fRaft.fLeader, .int .i64 p0.fRaft.fCommit, .int .i64 p0.fRaft.fLeft, .int .i64 p0.fRaft.fHard.fTerm, .int .i64 p0.fRaft.fHard.fVote, .slice Ap0_0 p0.fRaft.fHard.fVoters.length cp0_0, .string p0.fRaft.fHard.fSnap, .int .i64 p0.fRaft.fHard.fLog.fBase, .int .i64 p0.fRaft.fHard.fLog.fBaseTerm, .slice Ap0_1 p0.fRaft.fHard.fLog.fEntries.length cp0_1, .slice Ap0_2 p0.fRaft.fVotes.length cp0_2, .slice A15 x13.length c16] 84 (0, 0)) :: H, (100360, ⟨.slice A15 x13.length c16, 105, 3, x13.length, x13.flatMap GMark.enc⟩) :: R, φ⟩) W) => Cl.drop (f20 W h) 1
 refine ga_r (i := 17) (bz 19 262143) rfl (by kernel_rfl) (by decide) rfl (r_fieldF Try.underlying105 rfl Try.sizeOf3 rfl) ?_
 replace hm := bnd hm
 obtain ⟨l75, hl75, hm⟩ := hm
 refine ga_sL (i := 18) (bz 19 524287) rfl (by kernel_rfl) (by decide) (e_stR (tag := 100360) (enc := GMark.enc) (l := x13) (off := 1) (vs := [.int .i64 (max (w64 (x18.fMatch + 1)) (min (w64 (x18.fNext - 1)) (w64 (p1.fIndex + 1))))]) rfl hA21 rfl rfl hx18 hl75 rfl (Nat.le_of_ble_eq_true rfl) (fun _ => rfl) rfl rfl Try.sizeOf3) ?_
 rw [show x13.length = l75.length from (setAt_lenE hl75).symm]
 have hv77 := setAt_at hl75
 have f76 := cl_at2 (p := (Sta.ok ⟨w0, M, (100030, g2, .cells #[.int .i64 p1.fKind, .int .i64 p1.fFrom, .int .i64 p1.fTo, .int .i64 p1.fTerm, .int .i64 p1.fIndex, .int .i64 p1.fLogTerm, .int .i64 p1.fCommit, .bool p1.fGood, .slice Ap1_0 p1.fEntries.length cp1_0, .slice Ap1_1 p1.fVoters.length cp1_1, .string p1.fSnap] 25 (0, 0)) :: (100040, g3, .cells #[.int .i64 0, .int .i64 0, .int .i64 0, .int .i64 0, .int .i64 0, .int .i64 0, .int .i64 0, .slice none 0 0, .string (⟨#[]⟩ : ByteArray), .int .i64 0, .int .i64 0, .slice none 0 0, .slice none 0 0, .slice none 0 0] 84 (0, 0)) :: (100020, g1, .cells #[.int .i64 p0.fRaft.fMe, .int .i64 p0.fRaft.fRole, .int .i64 p0.fRaft.fLeader, .int .i64 p0.fRaft.fCommit, .int .i64 p0.fRaft.fLeft, .int .i64 p0.fRaft.fHard.fTerm, .int .i64 p0.fRaft.fHard.fVote, .slice Ap0_0 p0.fRaft.fHard.fVoters.length cp0_0, .string p0.fRaft.fHard.fSnap, .int .i64 p0.fRaft.fHard.fLog.fBase, .int .i64 p0.fRaft.fHard.fLog.fBaseTerm, .slice Ap0_1 p0.fRaft.fHard.fLog.fEntries.length cp0_1, .slice Ap0_2 p0.fRaft.fVotes.length cp0_2, .slice A15 l75.length c16] 84 (0, 0)) :: H, (100360, ⟨.slice A15 l75.length c16, 105, 3, l75.length, l75.flatMap GMark.enc⟩) :: R, φ⟩)) (enc := GMark.enc) (sz := 3) (fun _ => rfl) hA21 (fun W hS => rowCl (S := ⟨w0, M, (100030, g2, .cells #[.int .i64 p1.fKind, .int .i64 p1.fFrom, .int .i64 p1.fTo, .int .i64 p1.fTerm, .int .i64 p1.fIndex, .int .i64 p1.fLogTerm, .int .i64 p1.fCommit, .bool p1.fGood, .slice Ap1_0 p1.fEntries.length cp1_0, .slice Ap1_1 p1.fVoters.length cp1_1, .string p1.fSnap] 25 (0, 0)) :: (100040, g3, .cells #[.int .i64 0, .int .i64 0, .int .i64 0, .int .i64 0, .int .i64 0, .int .i64 0, .int .i64 0, .slice none 0 0, .string (⟨#[]⟩ : ByteArray), .int .i64 0, .int .i64 0, .slice none 0 0, .slice none 0 0, .slice none 0 0] 84 (0, 0)) :: (100020, g1, .cells #[.int .i64 p0.fRaft.fMe, .int .i64 p0.fRaft.fRole, .int .i64 p0.fRaft.fLeader, .int .i64 p0.fRaft.fCommit, .int .i64 p0.fRaft.fLeft, .int .i64 p0.fRaft.fHard.fTerm, .int .i64 p0.fRaft.fHard.fVote, .slice Ap0_0 p0.fRaft.fHard.fVoters.length cp0_0, .string p0.fRaft.fHard.fSnap, .int .i64 p0.fRaft.fHard.fLog.fBase, .int .i64 p0.fRaft.fHard.fLog.fBaseTerm, .slice Ap0_1 p0.fRaft.fHard.fLog.fEntries.length cp0_1, .slice Ap0_2 p0.fRaft.fVotes.length cp0_2, .slice A15 l75.length c16] 84 (0, 0)) :: H, (100360, ⟨.slice A15 l75.length c16, 105, 3, l75.length, l75.flatMap GMark.enc⟩) :: R, φ⟩) (tag := 100360) rfl W hS) hv77
 refine gz_done (by kernel_rfl) <| d_then ?_
 refine c_flat [(2, .pointer (some ⟨g1, 0, none⟩)), (4, .pointer (some ⟨g3, 0, none⟩)), (9, .pointer (some (ad19.add (x4.toNat * 3))))] ⟨rfl, rfl, rfl, trivial⟩ (fun u => ?_)
 refine c_sta ⟨w0, M, (100030, g2, .cells #[.int .i64 p1.fKind, .int .i64 p1.fFrom, .int .i64 p1.fTo, .int .i64 p1.fTerm, .int .i64 p1.fIndex, .int .i64 p1.fLogTerm, .int .i64 p1.fCommit, .bool p1.fGood, .slice Ap1_0 p1.fEntries.length cp1_0, .slice Ap1_1 p1.fVoters.length cp1_1, .string p1.fSnap] 25 (0, 0)) :: (100040, g3, .cells #[.int .i64 0, .int .i64 0, .int .i64 0, .int .i64 0, .int .i64 0, .int .i64 0, .int .i64 0, .slice none 0 0, .string (⟨#[]⟩ : ByteArray), .int .i64 0, .int .i64 0, .slice none 0 0, .slice none 0 0, .slice none 0 0] 84 (0, 0)) :: (100020, g1, .cells #[.int .i64 p0.fRaft.fMe, .int .i64 p0.fRaft.fRole, .int .i64 p0.fRaft.fLeader, .int .i64 p0.fRaft.fCommit, .int .i64 p0.fRaft.fLeft, .int .i64 p0.fRaft.fHard.fTerm, .int .i64 p0.fRaft.fHard.fVote, .slice Ap0_0 p0.fRaft.fHard.fVoters.length cp0_0, .string p0.fRaft.fHard.fSnap, .int .i64 p0.fRaft.fHard.fLog.fBase, .int .i64 p0.fRaft.fHard.fLog.fBaseTerm, .slice Ap0_1 p0.fRaft.fHard.fLog.fEntries.length cp0_1, .slice Ap0_2 p0.fRaft.fVotes.length cp0_2, .slice A15 l75.length c16] 84 (0, 0)) :: H, (100360, ⟨.slice A15 l75.length c16, 105, 3, l75.length, l75.flatMap GMark.enc⟩) :: R, φ⟩ (fun _ h => h) <| c_seq <| ga_start (n := 9) ⟨w0, M, (100030, g2, .cells #[.int .i64 p1.fKind, .int .i64 p1.fFrom, .int .i64 p1.fTo, .int .i64 p1.fTerm, .int .i64 p1.fIndex, .int .i64 p1.fLogTerm, .int .i64 p1.fCommit, .bool p1.fGood, .slice Ap1_0 p1.fEntries.length cp1_0, .slice Ap1_1 p1.fVoters.length cp1_1, .string p1.fSnap] 25 (0, 0)) :: (100020, g1, .cells #[.int .i64 p0.fRaft.fMe, .int .i64 p0.fRaft.fRole, .int .i64 p0.fRaft.fLeader, .int .i64 p0.fRaft.fCommit, .int .i64 p0.fRaft.fLeft, .int .i64 p0.fRaft.fHard.fTerm, .int .i64 p0.fRaft.fHard.fVote, .slice Ap0_0 p0.fRaft.fHard.fVoters.length cp0_0, .string p0.fRaft.fHard.fSnap, .int .i64 p0.fRaft.fHard.fLog.fBase, .int .i64 p0.fRaft.fHard.fLog.fBaseTerm, .slice Ap0_1 p0.fRaft.fHard.fLog.fEntries.length cp0_1, .slice Ap0_2 p0.fRaft.fVotes.length cp0_2, .slice A15 l75.length c16] 84 (0, 0)) :: H, (100360, ⟨.slice A15 l75.length c16, 105, 3, l75.length, l75.flatMap GMark.enc⟩) :: R, φ⟩ [] #[false, false, false, false, false, false, false, false, false] (fun W h => (h.dropH (t := 100040) rfl).phi (fun W hφ => hφ)) mixed rfl rfl <| ga_v (i := 0) (bz 9 1) rfl (by kernel_rfl) (fun _ _ _ _ h => h) rfl (r_loadA (tag := 100020) rfl rfl Try.isAgg84 Try.sizeOf84 rfl rfl) <| ga_v (i := 1) (bz 9 3) rfl (by kernel_rfl) (fun _ _ _ _ h => h) rfl (r_loadA (tag := 100020) rfl rfl Try.isAgg84 Try.sizeOf84 rfl rfl) <| ga_r (i := 2) (bz 9 7) rfl (by kernel_rfl) (by decide) rfl (r_move) <| ga_r (i := 3) (bz 9 15) rfl (by kernel_rfl) (by decide) rfl (r_nilck rfl) <| ga_r (i := 4) (bz 9 31) rfl (by kernel_rfl) (by decide) rfl (r_ldA rfl Try.isAgg105 Try.sizeOf105 (fun W hS => (f76 W hS).take 3) rfl) ?_
 replace hm := bnd hm
 obtain ⟨x114, hx115, hm⟩ := hm
 refine ga_cn (first := #[]) (i := 5) (bz 9 63) rfl (by kernel_rfl) (by decide)  ⟨w0, M, _, _, φ⟩ (fun _ h => h) Try.call63 rfl rfl rfl (c_raft_state_sends (⟨(⟨p0.fRaft.fMe, p0.fRaft.fRole, p0.fRaft.fLeader, p0.fRaft.fCommit, p0.fRaft.fLeft, p0.fRaft.fHard, p0.fRaft.fVotes, l75⟩ : GRaft)⟩ : Graft_state) Ap0_0 cp0_0 hcp0_0 (fun W h => fp0_0 W h) Ap0_1 cp0_1 hcp0_1 (fun W hS => fp0_1 W hS.now) Ap0_2 cp0_2 hcp0_2 (fun W hS => fp0_2 W hS.now) A15 c16 (setAt_len hc16 hl75) (fun W hS => rowCl (tag := 100360) rfl W hS) (⟨x18.fNode, (max (w64 (x18.fMatch + 1)) (min (w64 (x18.fNext - 1)) (w64 (p1.fIndex + 1)))), x18.fMatch⟩ : GMark) _ hx115) (fun ⟨A116, c117, A119, c120⟩ W ⟨hc117, hc120⟩ h => ((h.phi (fun _ hh => hh.1)).dropH (t := 100040) rfl).phi (fun W hφ => hφ)) (fun ⟨A116, c117, A119, c120⟩ ⟨hc117, hc120⟩ => ?_)
 refine ga_abs (fun φ122 q122' => ?_)
 have q122 : ∀ W, φ122 W → φ W := fun W h => (q122' W h).1
 have f118 := fun (W : World) (h : φ122 W) => (q122' W h).2.1
 have f121 := fun (W : World) (h : φ122 W) => (q122' W h).2.2
 refine ga_two (i := 6) (j := 7) (bz 9 127) (bz 9 191) rfl rfl (by kernel_rfl) (by decide) (by decide) ?_ ?_
 ·
  have hk127 := (DOk.cons (cap := GNote.capP) (x := x114) (p := (⟨A116, c117, A119, c120⟩ : GNoteP)) (⟨hc117, hc120⟩) DOk.nil)
  have f128 := fun (W : World) (h : φ122 W) => (DOwn.cons (own := GNote.ownP) (x := x114) (p := (⟨A116, c117, A119, c120⟩ : GNoteP)) (⟨f118 W h, f121 W h⟩) DOwn.nil)
  refine ex_e rfl (e_litD (tag := 100900) (enc := GNote.encP) (sz := 11) hk127 rfl Try.underlying48 (lit25_8 _ _ _ _ _ _ _ _ _ _ _ _ _ _ _) rfl rfl (fun _ => rfl)) (fun g126 W _ h => ((h.dropR (t := 100900) rfl).dropH (t := 100040) rfl).phi (fun W hφ => (q122 _ hφ))) (fun g126 _ => ?_)
  refine ga_storeN (i := 7) (tag := 100040) (bz 9 255) rfl (by kernel_rfl) (by decide) rfl rfl rfl rfl Try.sizeOf84 rfl rfl (fun W h => ((h.dropR (t := 100900) rfl).dropH (t := 100040) rfl).phi (fun W hφ => (q122 _ hφ))) <| ga_r (i := 8) (bz 9 511) rfl (by kernel_rfl) (by decide) rfl (r_assign) <| ga_done (by kernel_rfl) <| d_then ?_
  refine c_flat [(4, .pointer (some ⟨g3, 0, none⟩)), (5, .slice (some ⟨g126, 0, none⟩) [x114].length 1)] ⟨rfl, rfl, trivial⟩ (fun u => ?_)
  refine c_sta ⟨w0, M, (100030, g2, .cells #[.int .i64 p1.fKind, .int .i64 p1.fFrom, .int .i64 p1.fTo, .int .i64 p1.fTerm, .int .i64 p1.fIndex, .int .i64 p1.fLogTerm, .int .i64 p1.fCommit, .bool p1.fGood, .slice Ap1_0 p1.fEntries.length cp1_0, .slice Ap1_1 p1.fVoters.length cp1_1, .string p1.fSnap] 25 (0, 0)) :: (100040, g3, .cells #[.int .i64 p0.fRaft.fMe, .int .i64 p0.fRaft.fRole, .int .i64 p0.fRaft.fLeader, .int .i64 p0.fRaft.fCommit, .int .i64 p0.fRaft.fLeft, .int .i64 p0.fRaft.fHard.fTerm, .int .i64 p0.fRaft.fHard.fVote, .slice Ap0_0 p0.fRaft.fHard.fVoters.length cp0_0, .string p0.fRaft.fHard.fSnap, .int .i64 p0.fRaft.fHard.fLog.fBase, .int .i64 p0.fRaft.fHard.fLog.fBaseTerm, .slice Ap0_1 p0.fRaft.fHard.fLog.fEntries.length cp0_1, .slice Ap0_2 p0.fRaft.fVotes.length cp0_2, .slice A15 l75.length c16] 84 (0, 0)) :: (100020, g1, .cells #[.int .i64 p0.fRaft.fMe, .int .i64 p0.fRaft.fRole, .int .i64 p0.fRaft.fLeader, .int .i64 p0.fRaft.fCommit, .int .i64 p0.fRaft.fLeft, .int .i64 p0.fRaft.fHard.fTerm, .int .i64 p0.fRaft.fHard.fVote, .slice Ap0_0 p0.fRaft.fHard.fVoters.length cp0_0, .string p0.fRaft.fHard.fSnap, .int .i64 p0.fRaft.fHard.fLog.fBase, .int .i64 p0.fRaft.fHard.fLog.fBaseTerm, .slice Ap0_1 p0.fRaft.fHard.fLog.fEntries.length cp0_1, .slice Ap0_2 p0.fRaft.fVotes.length cp0_2, .slice A15 l75.length c16] 84 (0, 0)) :: H, (100900, ⟨.slice (some ⟨g126, 0, none⟩) [x114].length 1, 25, 11, [x114].length, ([x114].zip [(⟨A116, c117, A119, c120⟩ : GNoteP)]).flatMap GNote.encP⟩) :: (100360, ⟨.slice A15 l75.length c16, 105, 3, l75.length, l75.flatMap GMark.enc⟩) :: R, φ122⟩ (fun _ h => h) <| c_ret ?_
  cases hm
  refine d_shut (tag := 100360) rfl (fun φ129 q129' => ?_)
  have q129 : ∀ W, φ129 W → φ122 W := fun W h => (q129' W h).1
  have f130 := fun (W : World) (h : φ129 W) => (q129' W h).2
  refine d_sta _ (fun W h => ok_frontR (t := 100900) (t' := 2004) h rfl) ?_
  exact d_retC (Ap0_0, cp0_0, Ap0_1, cp0_1, Ap0_2, cp0_2, A15, c16, some ⟨g126, 0, none⟩, 1, [(⟨A116, c117, A119, c120⟩ : GNoteP)]) Try.results60 (res_agg (tag := 100040) rfl rfl Try.isAgg84 Try.sizeOf84 (res_tmp (res_nil rfl))) ⟨hcp0_0, hcp0_1, hcp0_2, (setAt_len hc16 hl75), ⟨hk127, (Nat.le_refl _)⟩⟩ (fun W h => (((h.dropH (t := 100030) rfl).dropH (t := 100040) rfl).dropH (t := 100020) rfl).phi (fun W hφ => ⟨(q122 _ (q129 _ hφ)), (fun W h => fp0_0 W (q122 _ (q129 _ h))) W hφ, (fun W h => fp0_1 W (q122 _ (q129 _ h))) W hφ, (fun W h => fp0_2 W (q122 _ (q129 _ h))) W hφ, (fun W h => f130 W h) W hφ, (fun W h => (f128 W (q129 _ h))) W hφ⟩)) (.inr rfl)
 refine ex_storeN (tag := 100040) rfl rfl rfl rfl Try.sizeOf84 rfl rfl (fun W h => (h.dropH (t := 100040) rfl).phi (fun W hφ => (q122 _ hφ))) ?_
 have hk132 := (DOk.cons (cap := GNote.capP) (x := x114) (p := (⟨A116, c117, A119, c120⟩ : GNoteP)) (⟨hc117, hc120⟩) DOk.nil)
 have f133 := fun (W : World) (h : φ122 W) => (DOwn.cons (own := GNote.ownP) (x := x114) (p := (⟨A116, c117, A119, c120⟩ : GNoteP)) (⟨f118 W h, f121 W h⟩) DOwn.nil)
 refine ga_e (i := 6) (bz 9 255) rfl (by kernel_rfl) (by decide) rfl  (e_litD (tag := 100900) (enc := GNote.encP) (sz := 11) hk132 rfl Try.underlying48 (lit25_8 _ _ _ _ _ _ _ _ _ _ _ _ _ _ _) rfl rfl (fun _ => rfl)) (fun g131 W _ h => ((h.dropR (t := 100900) rfl).dropH (t := 100040) rfl).phi (fun W hφ => (q122 _ hφ))) (fun g131 _ => ?_)
 refine ga_r (i := 8) (bz 9 511) rfl (by kernel_rfl) (by decide) rfl (r_assign) <| ga_done (by kernel_rfl) <| d_then ?_
 refine c_flat [(4, .pointer (some ⟨g3, 0, none⟩)), (5, .slice (some ⟨g131, 0, none⟩) [x114].length 1)] ⟨rfl, rfl, trivial⟩ (fun u => ?_)
 refine c_sta ⟨w0, M, (100030, g2, .cells #[.int .i64 p1.fKind, .int .i64 p1.fFrom, .int .i64 p1.fTo, .int .i64 p1.fTerm, .int .i64 p1.fIndex, .int .i64 p1.fLogTerm, .int .i64 p1.fCommit, .bool p1.fGood, .slice Ap1_0 p1.fEntries.length cp1_0, .slice Ap1_1 p1.fVoters.length cp1_1, .string p1.fSnap] 25 (0, 0)) :: (100040, g3, .cells #[.int .i64 p0.fRaft.fMe, .int .i64 p0.fRaft.fRole, .int .i64 p0.fRaft.fLeader, .int .i64 p0.fRaft.fCommit, .int .i64 p0.fRaft.fLeft, .int .i64 p0.fRaft.fHard.fTerm, .int .i64 p0.fRaft.fHard.fVote, .slice Ap0_0 p0.fRaft.fHard.fVoters.length cp0_0, .string p0.fRaft.fHard.fSnap, .int .i64 p0.fRaft.fHard.fLog.fBase, .int .i64 p0.fRaft.fHard.fLog.fBaseTerm, .slice Ap0_1 p0.fRaft.fHard.fLog.fEntries.length cp0_1, .slice Ap0_2 p0.fRaft.fVotes.length cp0_2, .slice A15 l75.length c16] 84 (0, 0)) :: (100020, g1, .cells #[.int .i64 p0.fRaft.fMe, .int .i64 p0.fRaft.fRole, .int .i64 p0.fRaft.fLeader, .int .i64 p0.fRaft.fCommit, .int .i64 p0.fRaft.fLeft, .int .i64 p0.fRaft.fHard.fTerm, .int .i64 p0.fRaft.fHard.fVote, .slice Ap0_0 p0.fRaft.fHard.fVoters.length cp0_0, .string p0.fRaft.fHard.fSnap, .int .i64 p0.fRaft.fHard.fLog.fBase, .int .i64 p0.fRaft.fHard.fLog.fBaseTerm, .slice Ap0_1 p0.fRaft.fHard.fLog.fEntries.length cp0_1, .slice Ap0_2 p0.fRaft.fVotes.length cp0_2, .slice A15 l75.length c16] 84 (0, 0)) :: H, (100900, ⟨.slice (some ⟨g131, 0, none⟩) [x114].length 1, 25, 11, [x114].length, ([x114].zip [(⟨A116, c117, A119, c120⟩ : GNoteP)]).flatMap GNote.encP⟩) :: (100360, ⟨.slice A15 l75.length c16, 105, 3, l75.length, l75.flatMap GMark.enc⟩) :: R, φ122⟩ (fun _ h => h) <| c_ret ?_
 cases hm
 refine d_shut (tag := 100360) rfl (fun φ134 q134' => ?_)
 have q134 : ∀ W, φ134 W → φ122 W := fun W h => (q134' W h).1
 have f135 := fun (W : World) (h : φ134 W) => (q134' W h).2
 refine d_sta _ (fun W h => ok_frontR (t := 100900) (t' := 2004) h rfl) ?_
 exact d_retC (Ap0_0, cp0_0, Ap0_1, cp0_1, Ap0_2, cp0_2, A15, c16, some ⟨g131, 0, none⟩, 1, [(⟨A116, c117, A119, c120⟩ : GNoteP)]) Try.results60 (res_agg (tag := 100040) rfl rfl Try.isAgg84 Try.sizeOf84 (res_tmp (res_nil rfl))) ⟨hcp0_0, hcp0_1, hcp0_2, (setAt_len hc16 hl75), ⟨hk132, (Nat.le_refl _)⟩⟩ (fun W h => (((h.dropH (t := 100030) rfl).dropH (t := 100040) rfl).dropH (t := 100020) rfl).phi (fun W hφ => ⟨(q122 _ (q134 _ hφ)), (fun W h => fp0_0 W (q122 _ (q134 _ h))) W hφ, (fun W h => fp0_1 W (q122 _ (q134 _ h))) W hφ, (fun W h => fp0_2 W (q122 _ (q134 _ h))) W hφ, (fun W h => f135 W h) W hφ, (fun W h => (f133 W (q134 _ h))) W hφ⟩)) (.inr rfl)
theorem bld38_21  : ∀ W, (Instr.build 38 #[]).run Try.prog W = .ok (.agg #[.int .i64 0, .int .i64 0, .slice none 0 0]) W := fun _ => by kernel_rfl
end Go.Proofs.Ytoglbdaagfoddaa
