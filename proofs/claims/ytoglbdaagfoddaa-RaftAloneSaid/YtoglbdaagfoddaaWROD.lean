import Derived.Test.YtoglbdaagfoddaaWROC
set_option maxRecDepth 100000
set_option maxHeartbeats 4000000
set_option linter.unusedVariables false
set_option linter.unusedSimpArgs false
namespace Go.Proofs.Ytoglbdaagfoddaa
open Go.RowKit Go.Proofs.YtoglbdaagfoddaaW.PrintLast
noncomputable def m_raft_state_receive_j2 (p0 : Graft_state) (p1 : GNote) (b14 : Bool) (i16 : Int) (i17 : Int) : Option (Graft_state × (List GNote)) :=
  (m_raft_state_answers (⟨(⟨p0.fRaft.fMe, p0.fRaft.fRole, p0.fRaft.fLeader, p0.fRaft.fCommit, i16, (⟨p0.fRaft.fHard.fTerm, i17, p0.fRaft.fHard.fVoters, p0.fRaft.fHard.fSnap, p0.fRaft.fHard.fLog⟩ : GHard), p0.fRaft.fVotes, p0.fRaft.fMarks⟩ : GRaft)⟩ : Graft_state) p1 2 0 b14).bind fun x34 =>
  some ((⟨(⟨p0.fRaft.fMe, p0.fRaft.fRole, p0.fRaft.fLeader, p0.fRaft.fCommit, i16, (⟨p0.fRaft.fHard.fTerm, i17, p0.fRaft.fHard.fVoters, p0.fRaft.fHard.fSnap, p0.fRaft.fHard.fLog⟩ : GHard), p0.fRaft.fVotes, p0.fRaft.fMarks⟩ : GRaft)⟩ : Graft_state), x34)
noncomputable def m_raft_state_receive_j1 (p0 : Graft_state) (p1 : GNote) (p2 : Int) (b14 : Bool) : Option (Graft_state × (List GNote)) :=
  if b14 = true then
    m_raft_state_receive_j2 p0 p1 b14 p2 (w64 (p1.fFrom + 1))
  else
    m_raft_state_receive_j2 p0 p1 b14 p0.fRaft.fLeft p0.fRaft.fHard.fVote
noncomputable def m_raft_state_receive (p0 : Graft_state) (p1 : GNote) (p2 : Int) : Option (Graft_state × (List GNote)) :=
  if p1.fKind = 1 then
    if p1.fTerm < p0.fRaft.fHard.fTerm then
      m_raft_state_receive_j1 p0 p1 p2 false
    else
      if p0.fRaft.fHard.fVote = 0 then
        if p0.fRaft.fRole = 0 then
          (m_plog_Newer p0.fRaft.fHard.fLog p1.fIndex p1.fLogTerm).bind fun x50 =>
          m_raft_state_receive_j1 p0 p1 p2 x50
        else
          m_raft_state_receive_j1 p0 p1 p2 false
      else
        if p0.fRaft.fHard.fVote = w64 (p1.fFrom + 1) then
          if p0.fRaft.fRole = 0 then
            (m_plog_Newer p0.fRaft.fHard.fLog p1.fIndex p1.fLogTerm).bind fun x47 =>
            m_raft_state_receive_j1 p0 p1 p2 x47
          else
            m_raft_state_receive_j1 p0 p1 p2 false
        else
          m_raft_state_receive_j1 p0 p1 p2 false
  else
    if p1.fKind = 2 then
      if p1.fTerm < p0.fRaft.fHard.fTerm then
        some (p0, ([] : List GNote))
      else
        if p0.fRaft.fRole ≠ 1 then
          some (p0, ([] : List GNote))
        else
          if p1.fGood = true then
            (m_raft_state_voters p0).bind fun x76 =>
            (m_slices_Contains_35 x76 p1.fFrom).bind fun x81 =>
            if x81 = true then
              (m_raft_state_voted p0 p1.fFrom).bind fun (z105 : Graft_state × (List GNote)) =>
              some (z105.1, z105.2)
            else
              some (p0, ([] : List GNote))
          else
            some (p0, ([] : List GNote))
    else
      if p1.fKind = 5 then
        if p1.fTerm < p0.fRaft.fHard.fTerm then
          some (p0, ([] : List GNote))
        else
          if p0.fRaft.fRole ≠ 2 then
            some (p0, ([] : List GNote))
          else
            (m_raft_state_answered p0 p1).bind fun (z130 : Graft_state × (List GNote)) =>
            some (z130.1, z130.2)
      else
        if p1.fTerm < p0.fRaft.fHard.fTerm then
          (m_raft_state_answers p0 p1 5 0 false).bind fun x148 =>
          some (p0, x148)
        else
          if p0.fRaft.fRole = 2 then
            some (p0, ([] : List GNote))
          else
            if p1.fKind = 4 then
              (m_raft_state_installed (⟨(⟨p0.fRaft.fMe, 0, w64 (p1.fFrom + 1), p0.fRaft.fCommit, p2, p0.fRaft.fHard, ([] : List Int), p0.fRaft.fMarks⟩ : GRaft)⟩ : Graft_state) p1).bind fun (z179 : Graft_state × (List GNote)) =>
              some (z179.1, z179.2)
            else
              (m_raft_state_appended (⟨(⟨p0.fRaft.fMe, 0, w64 (p1.fFrom + 1), p0.fRaft.fCommit, p2, p0.fRaft.fHard, ([] : List Int), p0.fRaft.fMarks⟩ : GRaft)⟩ : Graft_state) p1).bind fun (z201 : Graft_state × (List GNote)) =>
              some (z201.1, z201.2)
theorem c_raft_state_receive {w0 : World} {M : Nat → Prop} {H : List (Nat × Nat × Obj)} {R : List (Nat × Row)} {φ : World → Prop} (p0 : Graft_state) (Ap0_0 : Option Addr) (cp0_0 : Nat) (hcp0_0 : p0.fRaft.fHard.fVoters.length ≤ cp0_0) (fp0_0 : ∀ W, φ W → Cl W Ap0_0 (p0.fRaft.fHard.fVoters.flatMap (fun x : Int => [Value.int .i64 x]))) (Ap0_1 : Option Addr) (cp0_1 : Nat) (hcp0_1 : p0.fRaft.fHard.fLog.fEntries.length ≤ cp0_1) (fp0_1 : ∀ W, φ W → Cl W Ap0_1 (p0.fRaft.fHard.fLog.fEntries.flatMap GEntry.enc)) (Ap0_2 : Option Addr) (cp0_2 : Nat) (hcp0_2 : p0.fRaft.fVotes.length ≤ cp0_2) (fp0_2 : ∀ W, φ W → Cl W Ap0_2 (p0.fRaft.fVotes.flatMap (fun x : Int => [Value.int .i64 x]))) (Ap0_3 : Option Addr) (cp0_3 : Nat) (hcp0_3 : p0.fRaft.fMarks.length ≤ cp0_3) (fp0_3 : ∀ W, φ W → Cl W Ap0_3 (p0.fRaft.fMarks.flatMap GMark.enc)) (p1 : GNote) (Ap1_0 : Option Addr) (cp1_0 : Nat) (hcp1_0 : p1.fEntries.length ≤ cp1_0) (fp1_0 : ∀ W, φ W → Cl W Ap1_0 (p1.fEntries.flatMap GEntry.enc)) (Ap1_1 : Option Addr) (cp1_1 : Nat) (hcp1_1 : p1.fVoters.length ≤ cp1_1) (fp1_1 : ∀ W, φ W → Cl W Ap1_1 (p1.fVoters.flatMap (fun x : Int => [Value.int .i64 x]))) (p2 : Int) (r : Graft_state × (List GNote)) (hm : m_raft_state_receive p0 p1 p2 = some r) :
    Cn Try.prog 38 #[.agg #[.int .i64 p0.fRaft.fMe, .int .i64 p0.fRaft.fRole, .int .i64 p0.fRaft.fLeader, .int .i64 p0.fRaft.fCommit, .int .i64 p0.fRaft.fLeft, .int .i64 p0.fRaft.fHard.fTerm, .int .i64 p0.fRaft.fHard.fVote, .slice Ap0_0 p0.fRaft.fHard.fVoters.length cp0_0, .string p0.fRaft.fHard.fSnap, .int .i64 p0.fRaft.fHard.fLog.fBase, .int .i64 p0.fRaft.fHard.fLog.fBaseTerm, .slice Ap0_1 p0.fRaft.fHard.fLog.fEntries.length cp0_1, .slice Ap0_2 p0.fRaft.fVotes.length cp0_2, .slice Ap0_3 p0.fRaft.fMarks.length cp0_3], .agg #[.int .i64 p1.fKind, .int .i64 p1.fFrom, .int .i64 p1.fTo, .int .i64 p1.fTerm, .int .i64 p1.fIndex, .int .i64 p1.fLogTerm, .int .i64 p1.fCommit, .bool p1.fGood, .slice Ap1_0 p1.fEntries.length cp1_0, .slice Ap1_1 p1.fVoters.length cp1_1, .string p1.fSnap], .int .i64 p2] ⟨w0, M, H, R, φ⟩ (fun x : Option Addr × Nat × Option Addr × Nat × Option Addr × Nat × Option Addr × Nat × Option Addr × Nat × List GNoteP => .tuple #[.agg #[.int .i64 r.1.fRaft.fMe, .int .i64 r.1.fRaft.fRole, .int .i64 r.1.fRaft.fLeader, .int .i64 r.1.fRaft.fCommit, .int .i64 r.1.fRaft.fLeft, .int .i64 r.1.fRaft.fHard.fTerm, .int .i64 r.1.fRaft.fHard.fVote, .slice x.1 r.1.fRaft.fHard.fVoters.length x.2.1, .string r.1.fRaft.fHard.fSnap, .int .i64 r.1.fRaft.fHard.fLog.fBase, .int .i64 r.1.fRaft.fHard.fLog.fBaseTerm, .slice x.2.2.1 r.1.fRaft.fHard.fLog.fEntries.length x.2.2.2.1, .slice x.2.2.2.2.1 r.1.fRaft.fVotes.length x.2.2.2.2.2.1, .slice x.2.2.2.2.2.2.1 r.1.fRaft.fMarks.length x.2.2.2.2.2.2.2.1], .slice x.2.2.2.2.2.2.2.2.1 r.2.length x.2.2.2.2.2.2.2.2.2.1]) (fun x => r.1.fRaft.fHard.fVoters.length ≤ x.2.1 ∧ r.1.fRaft.fHard.fLog.fEntries.length ≤ x.2.2.2.1 ∧ r.1.fRaft.fVotes.length ≤ x.2.2.2.2.2.1 ∧ r.1.fRaft.fMarks.length ≤ x.2.2.2.2.2.2.2.1 ∧ (DOk GNote.capP r.2 x.2.2.2.2.2.2.2.2.2.2 ∧ r.2.length ≤ x.2.2.2.2.2.2.2.2.2.1)) (fun x => ⟨w0, M, H, (2004, ⟨.slice x.2.2.2.2.2.2.2.2.1 r.2.length x.2.2.2.2.2.2.2.2.2.1, 25, 11, r.2.length, (r.2.zip x.2.2.2.2.2.2.2.2.2.2).flatMap GNote.encP⟩) :: R, fun W => φ W ∧ Cl W x.1 (r.1.fRaft.fHard.fVoters.flatMap (fun x : Int => [Value.int .i64 x])) ∧ Cl W x.2.2.1 (r.1.fRaft.fHard.fLog.fEntries.flatMap GEntry.enc) ∧ Cl W x.2.2.2.2.1 (r.1.fRaft.fVotes.flatMap (fun x : Int => [Value.int .i64 x])) ∧ Cl W x.2.2.2.2.2.2.1 (r.1.fRaft.fMarks.flatMap GMark.enc) ∧ DOwn GNote.ownP r.2 x.2.2.2.2.2.2.2.2.2.2 W⟩) := by
 unfold m_raft_state_receive at hm
 refine cn_intro (fn := Try.f38) (N := 153) Try.func38 rfl Try.ntmps38 rfl <| c_seq <| c_region ?_
 refine g_e rfl (e_box 100030 rfl) (fun g1 _ => ?_)
 refine g_e rfl (e_box 100040 rfl) (fun g2 _ => ?_)
 refine g_e rfl (e_alloc 100060 Try.zeroValue84) (fun g3 _ => ?_)
 refine g_v rfl r_assign <| g_nil <| d_then <| c_seq <| c_region <| g_v rfl (r_field (n := 3) Try.underlying25 rfl Try.sizeOf3 rfl rfl) <| g_v rfl (r_load (tag := 100040) rfl rfl rfl Try.isAgg3) <| g_v rfl (r_field (n := 0) Try.underlying84 rfl Try.sizeOf43 rfl rfl) <| g_v rfl (r_field (n := 5) Try.underlying43 rfl Try.sizeOf40 rfl rfl) <| g_v rfl (r_field (n := 5) Try.underlying40 rfl Try.sizeOf3 rfl rfl) ?_
 refine g_v rfl (r_load (tag := 100030) rfl rfl rfl Try.isAgg3) <| g_v rfl (r_lss rfl rfl) <| g_v rfl r_assign <| g_nil <| d_then ?_
 refine c_flat [(2, .int .i64 p2), (3, .pointer (some ⟨g1, 0, none⟩)), (4, .pointer (some ⟨g2, 0, none⟩)), (6, .pointer (some ⟨g3, 0, none⟩)), (8, .bool (decide (p1.fTerm < p0.fRaft.fHard.fTerm)))] ⟨rfl, rfl, rfl, rfl, rfl, trivial⟩ (fun u => ?_)
 refine c_sta ⟨w0, M, (100060, g3, .cells #[.int .i64 0, .int .i64 0, .int .i64 0, .int .i64 0, .int .i64 0, .int .i64 0, .int .i64 0, .slice none 0 0, .string (⟨#[]⟩ : ByteArray), .int .i64 0, .int .i64 0, .slice none 0 0, .slice none 0 0, .slice none 0 0] 84 (0, 0)) :: (100040, g2, .cells #[.int .i64 p1.fKind, .int .i64 p1.fFrom, .int .i64 p1.fTo, .int .i64 p1.fTerm, .int .i64 p1.fIndex, .int .i64 p1.fLogTerm, .int .i64 p1.fCommit, .bool p1.fGood, .slice Ap1_0 p1.fEntries.length cp1_0, .slice Ap1_1 p1.fVoters.length cp1_1, .string p1.fSnap] 25 (0, 0)) :: (100030, g1, .cells #[.int .i64 p0.fRaft.fMe, .int .i64 p0.fRaft.fRole, .int .i64 p0.fRaft.fLeader, .int .i64 p0.fRaft.fCommit, .int .i64 p0.fRaft.fLeft, .int .i64 p0.fRaft.fHard.fTerm, .int .i64 p0.fRaft.fHard.fVote, .slice Ap0_0 p0.fRaft.fHard.fVoters.length cp0_0, .string p0.fRaft.fHard.fSnap, .int .i64 p0.fRaft.fHard.fLog.fBase, .int .i64 p0.fRaft.fHard.fLog.fBaseTerm, .slice Ap0_1 p0.fRaft.fHard.fLog.fEntries.length cp0_1, .slice Ap0_2 p0.fRaft.fVotes.length cp0_2, .slice Ap0_3 p0.fRaft.fMarks.length cp0_3] 84 (0, 0)) :: H, R, φ⟩ (fun _ h => h) <| c_seq <| c_seq <| c_region <| g_v rfl (r_field (n := 0) Try.underlying25 rfl Try.sizeOf3 rfl rfl) <| g_v rfl (r_load (tag := 100040) rfl rfl rfl Try.isAgg3) <| g_nil <| d_then <| c_block <| c_seq ?_
 refine c_region <| g_v rfl (r_eql rfl rfl) <| g_v rfl r_assign <| g_nil <| d_then ?_
 refine c_cond rfl (fun h4 => ?_) (fun h4 => ?_)
 ·
  replace hm := ite_t hm (of_decide_eq_true h4)
  refine c_seq ?_
  refine c_cut (ι := Bool) [2, 3, 4, 6, 9] (fun b14 => [(9, .bool b14)]) (fun b14 => ⟨w0, M, (100060, g3, .cells #[.int .i64 0, .int .i64 0, .int .i64 0, .int .i64 0, .int .i64 0, .int .i64 0, .int .i64 0, .slice none 0 0, .string (⟨#[]⟩ : ByteArray), .int .i64 0, .int .i64 0, .slice none 0 0, .slice none 0 0, .slice none 0 0] 84 (0, 0)) :: (100040, g2, .cells #[.int .i64 p1.fKind, .int .i64 p1.fFrom, .int .i64 p1.fTo, .int .i64 p1.fTerm, .int .i64 p1.fIndex, .int .i64 p1.fLogTerm, .int .i64 p1.fCommit, .bool p1.fGood, .slice Ap1_0 p1.fEntries.length cp1_0, .slice Ap1_1 p1.fVoters.length cp1_1, .string p1.fSnap] 25 (0, 0)) :: (100030, g1, .cells #[.int .i64 p0.fRaft.fMe, .int .i64 p0.fRaft.fRole, .int .i64 p0.fRaft.fLeader, .int .i64 p0.fRaft.fCommit, .int .i64 p0.fRaft.fLeft, .int .i64 p0.fRaft.fHard.fTerm, .int .i64 p0.fRaft.fHard.fVote, .slice Ap0_0 p0.fRaft.fHard.fVoters.length cp0_0, .string p0.fRaft.fHard.fSnap, .int .i64 p0.fRaft.fHard.fLog.fBase, .int .i64 p0.fRaft.fHard.fLog.fBaseTerm, .slice Ap0_1 p0.fRaft.fHard.fLog.fEntries.length cp0_1, .slice Ap0_2 p0.fRaft.fVotes.length cp0_2, .slice Ap0_3 p0.fRaft.fMarks.length cp0_3] 84 (0, 0)) :: H, R, φ⟩) (fun b14 => m_raft_state_receive_j1 p0 p1 p2 b14 = some r) ?_ (fun b14 u hm => ?_)
  ·
   refine c_region <| g_v rfl r_move <| g_v rfl (r_not rfl) <| g_v rfl r_move ?_
   refine g_if rfl rfl rfl rfl rfl (fun h43 => ?_) (fun h43 => ?_)
   ·
    have h43' : (decide (p1.fTerm < p0.fRaft.fHard.fTerm)) = false := by revert h43; cases (decide (p1.fTerm < p0.fRaft.fHard.fTerm)) <;> simp
    replace hm := ite_f hm (of_decide_eq_false h43')
    refine g_v rfl (r_field (n := 0) Try.underlying84 rfl Try.sizeOf43 rfl rfl) <| g_do rfl rfl rfl rfl rfl h43 <| g_v rfl (r_field (n := 5) Try.underlying43 rfl Try.sizeOf40 rfl rfl) <| g_do rfl rfl rfl rfl rfl h43 <| g_v rfl (r_field (n := 6) Try.underlying40 rfl Try.sizeOf3 rfl rfl) <| g_do rfl rfl rfl rfl rfl h43 <| g_v rfl (r_load (tag := 100030) rfl rfl rfl Try.isAgg3) <| g_do rfl rfl rfl rfl rfl h43 <| g_v rfl (r_eql rfl rfl) <| g_do rfl rfl rfl rfl rfl h43 ?_
    refine g_v rfl r_move ?_
    refine g_if rfl rfl rfl rfl rfl (fun h44 => ?_) (fun h44 => ?_)
    ·
     replace hm := ite_f hm (of_decide_eq_false h44)
     refine g_v rfl (r_field (n := 0) Try.underlying84 rfl Try.sizeOf43 rfl rfl) <| g_do rfl rfl rfl rfl rfl h44 <| g_v rfl (r_field (n := 5) Try.underlying43 rfl Try.sizeOf40 rfl rfl) <| g_do rfl rfl rfl rfl rfl h44 <| g_v rfl (r_field (n := 6) Try.underlying40 rfl Try.sizeOf3 rfl rfl) <| g_do rfl rfl rfl rfl rfl h44 <| g_v rfl (r_load (tag := 100030) rfl rfl rfl Try.isAgg3) <| g_do rfl rfl rfl rfl rfl h44 <| g_v rfl (r_field (n := 1) Try.underlying25 rfl Try.sizeOf3 rfl rfl) <| g_do rfl rfl rfl rfl rfl h44 ?_
     refine g_v rfl (r_load (tag := 100040) rfl rfl rfl Try.isAgg3) <| g_do rfl rfl rfl rfl rfl h44 <| g_v rfl (r_add rfl rfl rfl) <| g_do rfl rfl rfl rfl rfl h44 <| g_v rfl (r_eql rfl rfl) <| g_do rfl rfl rfl rfl rfl h43 <| g_v rfl (r_pick0 rfl h44) <| g_v rfl (r_pick1 rfl h43) <| g_v rfl r_move ?_
     refine g_if rfl rfl rfl rfl rfl (fun h45 => ?_) (fun h45 => ?_)
     ·
      replace hm := ite_t hm (of_decide_eq_true h45)
      refine g_v rfl (r_field (n := 0) Try.underlying84 rfl Try.sizeOf43 rfl rfl) <| g_do rfl rfl rfl rfl rfl h45 <| g_v rfl (r_field (n := 1) Try.underlying43 rfl Try.sizeOf3 rfl rfl) <| g_do rfl rfl rfl rfl rfl h45 <| g_v rfl (r_load (tag := 100030) rfl rfl rfl Try.isAgg3) <| g_do rfl rfl rfl rfl rfl h45 <| g_v rfl (r_eql rfl rfl) <| g_v rfl (r_pick1 rfl h45) <| g_v rfl r_move ?_
      refine g_if rfl rfl rfl rfl rfl (fun h46 => ?_) (fun h46 => ?_)
      ·
       replace hm := ite_t hm (of_decide_eq_true h46)
       refine g_v rfl (r_field (n := 0) Try.underlying84 rfl Try.sizeOf43 rfl rfl) <| g_do rfl rfl rfl rfl rfl h46 <| g_v rfl (r_field (n := 5) Try.underlying43 rfl Try.sizeOf40 rfl rfl) <| g_do rfl rfl rfl rfl rfl h46 <| g_v rfl (r_field (n := 9) Try.underlying40 rfl Try.sizeOf38 rfl rfl) <| g_do rfl rfl rfl rfl rfl h46 <| g_v rfl (r_loadA (tag := 100030) rfl rfl Try.isAgg38 Try.sizeOf38 rfl rfl) <| g_do rfl rfl rfl rfl rfl h46 <| g_v rfl (r_field (n := 4) Try.underlying25 rfl Try.sizeOf3 rfl rfl) <| g_do rfl rfl rfl rfl rfl h46 ?_
       refine g_v rfl (r_load (tag := 100040) rfl rfl rfl Try.isAgg3) <| g_do rfl rfl rfl rfl rfl h46 <| g_v rfl (r_field (n := 5) Try.underlying25 rfl Try.sizeOf3 rfl rfl) <| g_do rfl rfl rfl rfl rfl h46 <| g_v rfl (r_load (tag := 100040) rfl rfl rfl Try.isAgg3) <| g_do rfl rfl rfl rfl rfl h46 ?_
       replace hm := bnd hm
       obtain ⟨x47, hx48, hm⟩ := hm
       refine g_cn ⟨w0, M, _, _, φ⟩ (fun _ h => h) Try.call57 rfl rfl (c_plog_Newer p0.fRaft.fHard.fLog Ap0_1 cp0_1 hcp0_1 (fun W hS => fp0_1 W hS.now) p1.fIndex p1.fLogTerm _ hx48) (fun _ _ => ?_)
       refine g_v rfl (r_pick1 rfl h46) <| g_v rfl r_assign <| g_nil ?_
       exact d_round x47 hm Nat.zero_lt_one ⟨rfl, rfl, rfl, rfl, rfl, trivial⟩ (fun W h => h.phi (fun W hφ => hφ))
      ·
       replace hm := ite_f hm (of_decide_eq_false h46)
       refine g_no rfl rfl rfl rfl rfl h46 <| g_no rfl rfl rfl rfl rfl h46 <| g_no rfl rfl rfl rfl rfl h46 <| g_no rfl rfl rfl rfl rfl h46 <| g_no rfl rfl rfl rfl rfl h46 <| g_no rfl rfl rfl rfl rfl h46 <| g_no rfl rfl rfl rfl rfl h46 <| g_no rfl rfl rfl rfl rfl h46 <| g_v rfl (r_pick0 rfl h46) <| g_v rfl r_assign ?_
       refine g_nil ?_
       exact d_round false hm Nat.zero_lt_one ⟨rfl, rfl, rfl, rfl, rfl, trivial⟩ (fun W h => h.phi (fun W hφ => hφ))
     ·
      replace hm := ite_f hm (of_decide_eq_false h45)
      refine g_no rfl rfl rfl rfl rfl h45 <| g_no rfl rfl rfl rfl rfl h45 <| g_no rfl rfl rfl rfl rfl h45 <| g_v rfl (r_pick0 rfl h45) <| g_v rfl r_move <| g_no rfl rfl rfl rfl rfl rfl <| g_no rfl rfl rfl rfl rfl rfl <| g_no rfl rfl rfl rfl rfl rfl <| g_no rfl rfl rfl rfl rfl rfl <| g_no rfl rfl rfl rfl rfl rfl ?_
      refine g_no rfl rfl rfl rfl rfl rfl <| g_no rfl rfl rfl rfl rfl rfl <| g_no rfl rfl rfl rfl rfl rfl <| g_no rfl rfl rfl rfl rfl rfl <| g_v rfl (r_pick0 rfl rfl) <| g_v rfl r_assign <| g_nil ?_
      exact d_round false hm Nat.zero_lt_one ⟨rfl, rfl, rfl, rfl, rfl, trivial⟩ (fun W h => h.phi (fun W hφ => hφ))
    ·
     replace hm := ite_t hm (of_decide_eq_true h44)
     refine g_no rfl rfl rfl rfl rfl h44 <| g_no rfl rfl rfl rfl rfl h44 <| g_no rfl rfl rfl rfl rfl h44 <| g_no rfl rfl rfl rfl rfl h44 <| g_no rfl rfl rfl rfl rfl h44 <| g_no rfl rfl rfl rfl rfl h44 <| g_no rfl rfl rfl rfl rfl h44 <| g_do rfl rfl rfl rfl rfl h43 <| g_v rfl (r_pick1 rfl h44) <| g_v rfl (r_pick1 rfl h43) ?_
     refine g_v rfl r_move <| g_do rfl rfl rfl rfl rfl rfl <| g_v rfl (r_field (n := 0) Try.underlying84 rfl Try.sizeOf43 rfl rfl) <| g_do rfl rfl rfl rfl rfl rfl <| g_v rfl (r_field (n := 1) Try.underlying43 rfl Try.sizeOf3 rfl rfl) <| g_do rfl rfl rfl rfl rfl rfl <| g_v rfl (r_load (tag := 100030) rfl rfl rfl Try.isAgg3) <| g_do rfl rfl rfl rfl rfl rfl <| g_v rfl (r_eql rfl rfl) <| g_v rfl (r_pick1 rfl rfl) ?_
     refine g_v rfl r_move ?_
     refine g_if rfl rfl rfl rfl rfl (fun h49 => ?_) (fun h49 => ?_)
     ·
      replace hm := ite_t hm (of_decide_eq_true h49)
      refine g_v rfl (r_field (n := 0) Try.underlying84 rfl Try.sizeOf43 rfl rfl) <| g_do rfl rfl rfl rfl rfl h49 <| g_v rfl (r_field (n := 5) Try.underlying43 rfl Try.sizeOf40 rfl rfl) <| g_do rfl rfl rfl rfl rfl h49 <| g_v rfl (r_field (n := 9) Try.underlying40 rfl Try.sizeOf38 rfl rfl) <| g_do rfl rfl rfl rfl rfl h49 <| g_v rfl (r_loadA (tag := 100030) rfl rfl Try.isAgg38 Try.sizeOf38 rfl rfl) <| g_do rfl rfl rfl rfl rfl h49 <| g_v rfl (r_field (n := 4) Try.underlying25 rfl Try.sizeOf3 rfl rfl) <| g_do rfl rfl rfl rfl rfl h49 ?_
      refine g_v rfl (r_load (tag := 100040) rfl rfl rfl Try.isAgg3) <| g_do rfl rfl rfl rfl rfl h49 <| g_v rfl (r_field (n := 5) Try.underlying25 rfl Try.sizeOf3 rfl rfl) <| g_do rfl rfl rfl rfl rfl h49 <| g_v rfl (r_load (tag := 100040) rfl rfl rfl Try.isAgg3) <| g_do rfl rfl rfl rfl rfl h49 ?_
      replace hm := bnd hm
      obtain ⟨x50, hx51, hm⟩ := hm
      refine g_cn ⟨w0, M, _, _, φ⟩ (fun _ h => h) Try.call57 rfl rfl (c_plog_Newer p0.fRaft.fHard.fLog Ap0_1 cp0_1 hcp0_1 (fun W hS => fp0_1 W hS.now) p1.fIndex p1.fLogTerm _ hx51) (fun _ _ => ?_)
      refine g_v rfl (r_pick1 rfl h49) <| g_v rfl r_assign <| g_nil ?_
      exact d_round x50 hm Nat.zero_lt_one ⟨rfl, rfl, rfl, rfl, rfl, trivial⟩ (fun W h => h.phi (fun W hφ => hφ))
     ·
      replace hm := ite_f hm (of_decide_eq_false h49)
      refine g_no rfl rfl rfl rfl rfl h49 <| g_no rfl rfl rfl rfl rfl h49 <| g_no rfl rfl rfl rfl rfl h49 <| g_no rfl rfl rfl rfl rfl h49 <| g_no rfl rfl rfl rfl rfl h49 <| g_no rfl rfl rfl rfl rfl h49 <| g_no rfl rfl rfl rfl rfl h49 <| g_no rfl rfl rfl rfl rfl h49 <| g_v rfl (r_pick0 rfl h49) <| g_v rfl r_assign ?_
      refine g_nil ?_
      exact d_round false hm Nat.zero_lt_one ⟨rfl, rfl, rfl, rfl, rfl, trivial⟩ (fun W h => h.phi (fun W hφ => hφ))
   ·
    have h43' : (decide (p1.fTerm < p0.fRaft.fHard.fTerm)) = true := by revert h43; cases (decide (p1.fTerm < p0.fRaft.fHard.fTerm)) <;> simp
    replace hm := ite_t hm (of_decide_eq_true h43')
    refine g_no rfl rfl rfl rfl rfl h43 <| g_no rfl rfl rfl rfl rfl h43 <| g_no rfl rfl rfl rfl rfl h43 <| g_no rfl rfl rfl rfl rfl h43 <| g_no rfl rfl rfl rfl rfl h43 <| g_nu rfl rfl rfl rfl rfl <| g_nu rfl rfl rfl rfl rfl <| g_nu rfl rfl rfl rfl rfl <| g_nu rfl rfl rfl rfl rfl <| g_nu rfl rfl rfl rfl rfl ?_
    refine g_nu rfl rfl rfl rfl rfl <| g_nu rfl rfl rfl rfl rfl <| g_nu rfl rfl rfl rfl rfl <| g_no rfl rfl rfl rfl rfl h43 <| g_v rfl (r_pick0 rfl h43) <| g_v rfl r_move <| g_no rfl rfl rfl rfl rfl rfl <| g_no rfl rfl rfl rfl rfl rfl <| g_no rfl rfl rfl rfl rfl rfl <| g_no rfl rfl rfl rfl rfl rfl ?_
    refine g_v rfl (r_pick0 rfl rfl) <| g_v rfl r_move <| g_no rfl rfl rfl rfl rfl rfl <| g_no rfl rfl rfl rfl rfl rfl <| g_no rfl rfl rfl rfl rfl rfl <| g_no rfl rfl rfl rfl rfl rfl <| g_no rfl rfl rfl rfl rfl rfl <| g_no rfl rfl rfl rfl rfl rfl <| g_no rfl rfl rfl rfl rfl rfl <| g_no rfl rfl rfl rfl rfl rfl ?_
    refine g_no rfl rfl rfl rfl rfl rfl <| g_v rfl (r_pick0 rfl rfl) <| g_v rfl r_assign <| g_nil ?_
    exact d_round false hm Nat.zero_lt_one ⟨rfl, rfl, rfl, rfl, rfl, trivial⟩ (fun W h => h.phi (fun W hφ => hφ))
  ·
   unfold m_raft_state_receive_j1 at hm
   refine d_flat [(2, .int .i64 p2), (3, .pointer (some ⟨g1, 0, none⟩)), (4, .pointer (some ⟨g2, 0, none⟩)), (6, .pointer (some ⟨g3, 0, none⟩)), (9, .bool b14)] ⟨rfl, rfl, rfl, rfl, rfl, trivial⟩ (fun u => ?_)
   refine d_then <| c_seq ?_
   refine c_cut (ι := Int × Int) [3, 4, 6, 9] (fun ⟨i16, i17⟩ => []) (fun ⟨i16, i17⟩ => ⟨w0, M, (100060, g3, .cells #[.int .i64 0, .int .i64 0, .int .i64 0, .int .i64 0, .int .i64 0, .int .i64 0, .int .i64 0, .slice none 0 0, .string (⟨#[]⟩ : ByteArray), .int .i64 0, .int .i64 0, .slice none 0 0, .slice none 0 0, .slice none 0 0] 84 (0, 0)) :: (100040, g2, .cells #[.int .i64 p1.fKind, .int .i64 p1.fFrom, .int .i64 p1.fTo, .int .i64 p1.fTerm, .int .i64 p1.fIndex, .int .i64 p1.fLogTerm, .int .i64 p1.fCommit, .bool p1.fGood, .slice Ap1_0 p1.fEntries.length cp1_0, .slice Ap1_1 p1.fVoters.length cp1_1, .string p1.fSnap] 25 (0, 0)) :: (100030, g1, .cells #[.int .i64 p0.fRaft.fMe, .int .i64 p0.fRaft.fRole, .int .i64 p0.fRaft.fLeader, .int .i64 p0.fRaft.fCommit, .int .i64 i16, .int .i64 p0.fRaft.fHard.fTerm, .int .i64 i17, .slice Ap0_0 p0.fRaft.fHard.fVoters.length cp0_0, .string p0.fRaft.fHard.fSnap, .int .i64 p0.fRaft.fHard.fLog.fBase, .int .i64 p0.fRaft.fHard.fLog.fBaseTerm, .slice Ap0_1 p0.fRaft.fHard.fLog.fEntries.length cp0_1, .slice Ap0_2 p0.fRaft.fVotes.length cp0_2, .slice Ap0_3 p0.fRaft.fMarks.length cp0_3] 84 (0, 0)) :: H, R, φ⟩) (fun ⟨i16, i17⟩ => m_raft_state_receive_j2 p0 p1 b14 i16 i17 = some r) ?_ (fun ⟨i16, i17⟩ u hm => ?_)
   ·
    refine c_seq <| c_region <| g_v rfl r_move <| g_nil <| d_then ?_
    refine c_cond rfl (fun h42 => ?_) (fun h42 => ?_)
    ·
     replace hm := ite_t hm h42
     refine c_region <| g_v rfl (r_field (n := 1) Try.underlying25 rfl Try.sizeOf3 rfl rfl) <| g_v rfl (r_load (tag := 100040) rfl rfl rfl Try.isAgg3) <| g_v rfl (r_add rfl rfl rfl) <| g_v rfl r_move <| g_v rfl (r_field (n := 0) Try.underlying84 rfl Try.sizeOf43 rfl rfl) <| g_v rfl (r_field (n := 5) Try.underlying43 rfl Try.sizeOf40 rfl rfl) <| g_v rfl (r_field (n := 6) Try.underlying40 rfl Try.sizeOf3 rfl rfl) <| g_storeL (tag := 100030) rfl rfl rfl rfl Try.sizeOf3 rfl rfl <| g_v rfl (r_field (n := 0) Try.underlying84 rfl Try.sizeOf43 rfl rfl) ?_
     refine g_v rfl (r_field (n := 4) Try.underlying43 rfl Try.sizeOf3 rfl rfl) <| g_storeL (tag := 100030) rfl rfl rfl rfl Try.sizeOf3 rfl rfl <| g_nil ?_
     exact d_round (p2, w64 (p1.fFrom + 1)) hm Nat.zero_lt_one ⟨rfl, rfl, rfl, rfl, trivial⟩ (fun W h => h.phi (fun W hφ => hφ))
    ·
     replace hm := ite_f hm (bool_nt h42)
     refine c_skip ?_
     exact d_round (p0.fRaft.fLeft, p0.fRaft.fHard.fVote) hm Nat.zero_lt_one ⟨rfl, rfl, rfl, rfl, trivial⟩ (fun W h => h.phi (fun W hφ => hφ))
   ·
    unfold m_raft_state_receive_j2 at hm
    refine d_flat [(3, .pointer (some ⟨g1, 0, none⟩)), (4, .pointer (some ⟨g2, 0, none⟩)), (6, .pointer (some ⟨g3, 0, none⟩)), (9, .bool b14)] ⟨rfl, rfl, rfl, rfl, trivial⟩ (fun u => ?_)
    refine d_sta ⟨w0, M, (100060, g3, .cells #[.int .i64 0, .int .i64 0, .int .i64 0, .int .i64 0, .int .i64 0, .int .i64 0, .int .i64 0, .slice none 0 0, .string (⟨#[]⟩ : ByteArray), .int .i64 0, .int .i64 0, .slice none 0 0, .slice none 0 0, .slice none 0 0] 84 (0, 0)) :: (100040, g2, .cells #[.int .i64 p1.fKind, .int .i64 p1.fFrom, .int .i64 p1.fTo, .int .i64 p1.fTerm, .int .i64 p1.fIndex, .int .i64 p1.fLogTerm, .int .i64 p1.fCommit, .bool p1.fGood, .slice Ap1_0 p1.fEntries.length cp1_0, .slice Ap1_1 p1.fVoters.length cp1_1, .string p1.fSnap] 25 (0, 0)) :: (100030, g1, .cells #[.int .i64 p0.fRaft.fMe, .int .i64 p0.fRaft.fRole, .int .i64 p0.fRaft.fLeader, .int .i64 p0.fRaft.fCommit, .int .i64 i16, .int .i64 p0.fRaft.fHard.fTerm, .int .i64 i17, .slice Ap0_0 p0.fRaft.fHard.fVoters.length cp0_0, .string p0.fRaft.fHard.fSnap, .int .i64 p0.fRaft.fHard.fLog.fBase, .int .i64 p0.fRaft.fHard.fLog.fBaseTerm, .slice Ap0_1 p0.fRaft.fHard.fLog.fEntries.length cp0_1, .slice Ap0_2 p0.fRaft.fVotes.length cp0_2, .slice Ap0_3 p0.fRaft.fMarks.length cp0_3] 84 (0, 0)) :: H, R, φ⟩ (fun _ h => h) <| d_then <| c_seq <| ga_start (n := 7) ⟨w0, M, (100060, g3, .cells #[.int .i64 0, .int .i64 0, .int .i64 0, .int .i64 0, .int .i64 0, .int .i64 0, .int .i64 0, .slice none 0 0, .string (⟨#[]⟩ : ByteArray), .int .i64 0, .int .i64 0, .slice none 0 0, .slice none 0 0, .slice none 0 0] 84 (0, 0)) :: (100040, g2, .cells #[.int .i64 p1.fKind, .int .i64 p1.fFrom, .int .i64 p1.fTo, .int .i64 p1.fTerm, .int .i64 p1.fIndex, .int .i64 p1.fLogTerm, .int .i64 p1.fCommit, .bool p1.fGood, .slice Ap1_0 p1.fEntries.length cp1_0, .slice Ap1_1 p1.fVoters.length cp1_1, .string p1.fSnap] 25 (0, 0)) :: (100030, g1, .cells #[.int .i64 p0.fRaft.fMe, .int .i64 p0.fRaft.fRole, .int .i64 p0.fRaft.fLeader, .int .i64 p0.fRaft.fCommit, .int .i64 i16, .int .i64 p0.fRaft.fHard.fTerm, .int .i64 i17, .slice Ap0_0 p0.fRaft.fHard.fVoters.length cp0_0, .string p0.fRaft.fHard.fSnap, .int .i64 p0.fRaft.fHard.fLog.fBase, .int .i64 p0.fRaft.fHard.fLog.fBaseTerm, .slice Ap0_1 p0.fRaft.fHard.fLog.fEntries.length cp0_1, .slice Ap0_2 p0.fRaft.fVotes.length cp0_2, .slice Ap0_3 p0.fRaft.fMarks.length cp0_3] 84 (0, 0)) :: H, R, φ⟩ [5] #[false, false, false, false, false, false, false] (fun W h => h.phi (fun W hφ => hφ)) mixed rfl rfl <| ga_v (i := 0) (bz 7 1) rfl (by kernel_rfl) (fun _ _ _ _ h => h) rfl (r_loadA (tag := 100030) rfl rfl Try.isAgg84 Try.sizeOf84 rfl rfl) <| ga_v (i := 1) (bz 7 3) rfl (by kernel_rfl) (fun _ _ _ _ h => h) rfl (r_loadA (tag := 100030) rfl rfl Try.isAgg84 Try.sizeOf84 rfl rfl) <| ga_v (i := 2) (bz 7 7) rfl (by kernel_rfl) (fun _ _ _ _ h => h) rfl (r_loadA (tag := 100040) rfl rfl Try.isAgg25 Try.sizeOf25 rfl rfl) <| ga_r (i := 3) (bz 7 15) rfl (by kernel_rfl) (by decide) rfl (r_move) ?_
    replace hm := bnd hm
    obtain ⟨x34, hx35, hm⟩ := hm
    refine ga_cn (first := #[]) (i := 4) (bz 7 31) rfl (by kernel_rfl) (by decide)  ⟨w0, M, _, _, φ⟩ (fun _ h => h) Try.call58 rfl rfl rfl (c_raft_state_answers (⟨(⟨p0.fRaft.fMe, p0.fRaft.fRole, p0.fRaft.fLeader, p0.fRaft.fCommit, i16, (⟨p0.fRaft.fHard.fTerm, i17, p0.fRaft.fHard.fVoters, p0.fRaft.fHard.fSnap, p0.fRaft.fHard.fLog⟩ : GHard), p0.fRaft.fVotes, p0.fRaft.fMarks⟩ : GRaft)⟩ : Graft_state) Ap0_0 cp0_0 hcp0_0 (fun W hS => fp0_0 W hS.now) Ap0_1 cp0_1 hcp0_1 (fun W hS => fp0_1 W hS.now) Ap0_2 cp0_2 hcp0_2 (fun W hS => fp0_2 W hS.now) Ap0_3 cp0_3 hcp0_3 (fun W hS => fp0_3 W hS.now) p1 Ap1_0 cp1_0 hcp1_0 (fun W hS => fp1_0 W hS.now) Ap1_1 cp1_1 hcp1_1 (fun W hS => fp1_1 W hS.now) 2 0 b14 _ hx35) (fun ⟨A36, c37, ps39⟩ W hc37 h => (((ok_frontR (t := 2000) (t' := 100710) h rfl).phi (fun _ hh => hh.1)).dropR (t := 100710) rfl).phi (fun W hφ => hφ)) (fun ⟨A36, c37, ps39⟩ hc37 => ?_)
    refine ga_sta _ (fun W h => (ok_frontR (t := 2000) (t' := 100710) h rfl)) ?_
    refine ga_abs (fun φ41 q41' => ?_)
    have q41 : ∀ W, φ41 W → φ W := fun W h => (q41' W h).1
    have f40 := fun (W : World) (h : φ41 W) => (q41' W h).2
    refine ga_lastL (i := 5) (tag := 100060) (bz 7 63) rfl (by kernel_rfl) (by decide) rfl rfl rfl rfl Try.sizeOf84 rfl rfl <| gz_p (i := 6) (bz 7 127) rfl (.inr rfl) (by kernel_rfl) (fun _ _ _ _ h => h) rfl <| gz_done (by kernel_rfl) <| d_then <| c_ret <| d_ret_block <| d_ret_then ?_
    replace hm := Option.some.inj hm
    subst hm
    refine d_sta _ (fun W h => ok_frontR (t := 100710) (t' := 2004) h rfl) ?_
    refine d_retC (Ap0_0, cp0_0, Ap0_1, cp0_1, Ap0_2, cp0_2, Ap0_3, cp0_3, A36, c37, ps39) Try.results38 ?_ ⟨hcp0_0, hcp0_1, hcp0_2, hcp0_3, ⟨hc37.1, hc37.2⟩⟩ (fun W h => (((h.dropH (t := 100060) rfl).dropH (t := 100040) rfl).dropH (t := 100030) rfl).phi (fun W hφ => ⟨(q41 _ hφ), (fun W h => fp0_0 W (q41 _ h)) W hφ, (fun W h => fp0_1 W (q41 _ h)) W hφ, (fun W h => fp0_2 W (q41 _ h)) W hφ, (fun W h => fp0_3 W (q41 _ h)) W hφ, (fun W h => (f40 W h)) W hφ⟩)) (.inr rfl)
    refine res_agg (tag := 100060) rfl rfl Try.isAgg84 Try.sizeOf84 <| res_tmp <| res_nil ?_
    exact rfl
 ·
  replace hm := ite_f hm (of_decide_eq_false h4)
  refine c_seq <| c_region <| g_v rfl (r_eql rfl rfl) <| g_v rfl r_assign <| g_nil <| d_then ?_
  refine c_cond rfl (fun h52 => ?_) (fun h52 => ?_)
  ·
   replace hm := ite_t hm (of_decide_eq_true h52)
   refine c_seq <| c_seq <| ga_start (n := 20) ⟨w0, M, (100060, g3, .cells #[.int .i64 0, .int .i64 0, .int .i64 0, .int .i64 0, .int .i64 0, .int .i64 0, .int .i64 0, .slice none 0 0, .string (⟨#[]⟩ : ByteArray), .int .i64 0, .int .i64 0, .slice none 0 0, .slice none 0 0, .slice none 0 0] 84 (0, 0)) :: (100040, g2, .cells #[.int .i64 p1.fKind, .int .i64 p1.fFrom, .int .i64 p1.fTo, .int .i64 p1.fTerm, .int .i64 p1.fIndex, .int .i64 p1.fLogTerm, .int .i64 p1.fCommit, .bool p1.fGood, .slice Ap1_0 p1.fEntries.length cp1_0, .slice Ap1_1 p1.fVoters.length cp1_1, .string p1.fSnap] 25 (0, 0)) :: (100030, g1, .cells #[.int .i64 p0.fRaft.fMe, .int .i64 p0.fRaft.fRole, .int .i64 p0.fRaft.fLeader, .int .i64 p0.fRaft.fCommit, .int .i64 p0.fRaft.fLeft, .int .i64 p0.fRaft.fHard.fTerm, .int .i64 p0.fRaft.fHard.fVote, .slice Ap0_0 p0.fRaft.fHard.fVoters.length cp0_0, .string p0.fRaft.fHard.fSnap, .int .i64 p0.fRaft.fHard.fLog.fBase, .int .i64 p0.fRaft.fHard.fLog.fBaseTerm, .slice Ap0_1 p0.fRaft.fHard.fLog.fEntries.length cp0_1, .slice Ap0_2 p0.fRaft.fVotes.length cp0_2, .slice Ap0_3 p0.fRaft.fMarks.length cp0_3] 84 (0, 0)) :: H, R, φ⟩ [] #[false, false, false, false, false, false, false, false, false, false, false, false, false, false, false, false, false, false, false, false] (fun W h => h.phi (fun W hφ => hφ)) mixed rfl rfl <| ga_r (i := 0) (bz 20 1) rfl (by kernel_rfl) (by decide) rfl (r_move) <| ga_r (i := 1) (bz 20 3) rfl (by kernel_rfl) (by decide) rfl (r_move) ?_
   refine ga_if (t := 75) rfl (fun h73 => ?_) (fun h73 => ?_)
   ·
    replace hm := ite_t hm (of_decide_eq_true h73)
    refine ga_no (i := 2) (bz 20 7) rfl (by kernel_rfl) (fun _ _ _ _ h => h) rfl rfl rfl rfl rfl h73 <| ga_no (i := 3) (bz 20 15) rfl (by kernel_rfl) (fun _ _ _ _ h => h) rfl rfl rfl rfl rfl h73 <| ga_no (i := 4) (bz 20 31) rfl (by kernel_rfl) (fun _ _ _ _ h => h) rfl rfl rfl rfl rfl h73 <| ga_no (i := 5) (bz 20 63) rfl (by kernel_rfl) (fun _ _ _ _ h => h) rfl rfl rfl rfl rfl h73 <| ga_r (i := 6) (bz 20 127) rfl (by kernel_rfl) (by decide) rfl (r_pick1 rfl h73) <| ga_r (i := 7) (bz 20 255) rfl (by kernel_rfl) (by decide) rfl (r_move) <| ga_no (i := 8) (bz 20 511) rfl (by kernel_rfl) (fun _ _ _ _ h => h) rfl rfl rfl rfl rfl rfl <| ga_no (i := 9) (bz 20 1023) rfl (by kernel_rfl) (fun _ _ _ _ h => h) rfl rfl rfl rfl rfl rfl <| ga_no (i := 10) (bz 20 2047) rfl (by kernel_rfl) (fun _ _ _ _ h => h) rfl rfl rfl rfl rfl rfl <| ga_r (i := 11) (bz 20 4095) rfl (by kernel_rfl) (by decide) rfl (r_pick1 rfl rfl) ?_
    refine ga_r (i := 12) (bz 20 8191) rfl (by kernel_rfl) (by decide) rfl (r_move) <| ga_no (i := 13) (bz 20 16383) rfl (by kernel_rfl) (fun _ _ _ _ h => h) rfl rfl rfl rfl rfl rfl <| ga_no (i := 14) (bz 20 32767) rfl (by kernel_rfl) (fun _ _ _ _ h => h) rfl rfl rfl rfl rfl rfl <| ga_no (i := 15) (bz 20 65535) rfl (by kernel_rfl) (fun _ _ _ _ h => h) rfl rfl rfl rfl rfl rfl <| ga_no (i := 16) (bz 20 131071) rfl (by kernel_rfl) (fun _ _ _ _ h => h) rfl rfl rfl rfl rfl rfl <| ga_no (i := 17) (bz 20 262143) rfl (by kernel_rfl) (fun _ _ _ _ h => h) rfl rfl rfl rfl rfl rfl <| ga_no (i := 18) (bz 20 524287) rfl (by kernel_rfl) (fun _ _ _ _ h => h) rfl rfl rfl rfl rfl rfl <| ga_r (i := 19) (bz 20 1048575) rfl (by kernel_rfl) (by decide) rfl (r_pick1 rfl rfl) <| ga_done (by kernel_rfl) <| d_then ?_
    refine c_flat [(3, .pointer (some ⟨g1, 0, none⟩)), (4, .pointer (some ⟨g2, 0, none⟩)), (6, .pointer (some ⟨g3, 0, none⟩)), (93, .bool true)] ⟨rfl, rfl, rfl, rfl, trivial⟩ (fun u => ?_)
    refine c_cond1 rfl rfl <| c_seq <| c_region <| g_v rfl (r_loadA (tag := 100030) rfl rfl Try.isAgg84 Try.sizeOf84 rfl rfl) <| g_storeL (tag := 100060) rfl rfl rfl rfl Try.sizeOf84 rfl rfl <| g_v rfl r_assign <| g_nil <| d_then <| c_ret <| d_ret_then ?_
    refine d_ret_block <| d_ret_then ?_
    replace hm := Option.some.inj hm
    subst hm
    refine d_sta _ (fun W h => nilR h 11 25 11) <| d_sta _ (fun W h => ok_frontR (t := 11) (t' := 2004) h rfl) ?_
    refine d_retC (Ap0_0, cp0_0, Ap0_1, cp0_1, Ap0_2, cp0_2, Ap0_3, cp0_3, none, 0, ([] : List GNoteP)) Try.results38 ?_ ⟨hcp0_0, hcp0_1, hcp0_2, hcp0_3, ⟨DOk.nil, (Nat.le_refl 0)⟩⟩ (fun W h => (((h.dropH (t := 100060) rfl).dropH (t := 100040) rfl).dropH (t := 100030) rfl).phi (fun W hφ => ⟨hφ, (fun W h => fp0_0 W h) W hφ, (fun W h => fp0_1 W h) W hφ, (fun W h => fp0_2 W h) W hφ, (fun W h => fp0_3 W h) W hφ, (fun W h => DOwn.nil) W hφ⟩)) (.inr rfl)
    refine res_agg (tag := 100060) rfl rfl Try.isAgg84 Try.sizeOf84 <| res_tmp <| res_nil ?_
    exact rfl
   ·
    replace hm := ite_f hm (of_decide_eq_false h73)
    refine ga_rG (i := 2) (bz 20 7) rfl (by kernel_rfl) (by decide) rfl rfl rfl rfl rfl h73 (r_field (n := 0) Try.underlying84 rfl Try.sizeOf43 rfl rfl) <| ga_rG (i := 3) (bz 20 15) rfl (by kernel_rfl) (by decide) rfl rfl rfl rfl rfl h73 (r_field (n := 1) Try.underlying43 rfl Try.sizeOf3 rfl rfl) <| ga_rG (i := 4) (bz 20 31) rfl (by kernel_rfl) (by decide) rfl rfl rfl rfl rfl h73 (r_load (tag := 100030) rfl rfl rfl Try.isAgg3) <| ga_rG (i := 5) (bz 20 63) rfl (by kernel_rfl) (by decide) rfl rfl rfl rfl rfl h73 (r_neq rfl rfl) <| ga_r (i := 6) (bz 20 127) rfl (by kernel_rfl) (by decide) rfl (r_pick0 rfl h73) <| ga_r (i := 7) (bz 20 255) rfl (by kernel_rfl) (by decide) rfl (r_move) ?_
    refine ga_if (t := 81) rfl (fun h74 => ?_) (fun h74 => ?_)
    ·
     replace hm := ite_t hm (of_decide_eq_true h74)
     refine ga_no (i := 8) (bz 20 511) rfl (by kernel_rfl) (fun _ _ _ _ h => h) rfl rfl rfl rfl rfl h74 <| ga_no (i := 9) (bz 20 1023) rfl (by kernel_rfl) (fun _ _ _ _ h => h) rfl rfl rfl rfl rfl h74 <| ga_no (i := 10) (bz 20 2047) rfl (by kernel_rfl) (fun _ _ _ _ h => h) rfl rfl rfl rfl rfl h74 <| ga_r (i := 11) (bz 20 4095) rfl (by kernel_rfl) (by decide) rfl (r_pick1 rfl h74) <| ga_r (i := 12) (bz 20 8191) rfl (by kernel_rfl) (by decide) rfl (r_move) <| ga_no (i := 13) (bz 20 16383) rfl (by kernel_rfl) (fun _ _ _ _ h => h) rfl rfl rfl rfl rfl rfl <| ga_no (i := 14) (bz 20 32767) rfl (by kernel_rfl) (fun _ _ _ _ h => h) rfl rfl rfl rfl rfl rfl <| ga_no (i := 15) (bz 20 65535) rfl (by kernel_rfl) (fun _ _ _ _ h => h) rfl rfl rfl rfl rfl rfl <| ga_no (i := 16) (bz 20 131071) rfl (by kernel_rfl) (fun _ _ _ _ h => h) rfl rfl rfl rfl rfl rfl <| ga_no (i := 17) (bz 20 262143) rfl (by kernel_rfl) (fun _ _ _ _ h => h) rfl rfl rfl rfl rfl rfl ?_
     refine ga_no (i := 18) (bz 20 524287) rfl (by kernel_rfl) (fun _ _ _ _ h => h) rfl rfl rfl rfl rfl rfl <| ga_r (i := 19) (bz 20 1048575) rfl (by kernel_rfl) (by decide) rfl (r_pick1 rfl rfl) <| ga_done (by kernel_rfl) <| d_then ?_
     refine c_flat [(3, .pointer (some ⟨g1, 0, none⟩)), (4, .pointer (some ⟨g2, 0, none⟩)), (6, .pointer (some ⟨g3, 0, none⟩)), (93, .bool true)] ⟨rfl, rfl, rfl, rfl, trivial⟩ (fun u => ?_)
     refine c_cond1 rfl rfl <| c_seq <| c_region <| g_v rfl (r_loadA (tag := 100030) rfl rfl Try.isAgg84 Try.sizeOf84 rfl rfl) <| g_storeL (tag := 100060) rfl rfl rfl rfl Try.sizeOf84 rfl rfl <| g_v rfl r_assign <| g_nil <| d_then <| c_ret <| d_ret_then ?_
     refine d_ret_block <| d_ret_then ?_
     replace hm := Option.some.inj hm
     subst hm
     refine d_sta _ (fun W h => nilR h 12 25 11) <| d_sta _ (fun W h => ok_frontR (t := 12) (t' := 2004) h rfl) ?_
     refine d_retC (Ap0_0, cp0_0, Ap0_1, cp0_1, Ap0_2, cp0_2, Ap0_3, cp0_3, none, 0, ([] : List GNoteP)) Try.results38 ?_ ⟨hcp0_0, hcp0_1, hcp0_2, hcp0_3, ⟨DOk.nil, (Nat.le_refl 0)⟩⟩ (fun W h => (((h.dropH (t := 100060) rfl).dropH (t := 100040) rfl).dropH (t := 100030) rfl).phi (fun W hφ => ⟨hφ, (fun W h => fp0_0 W h) W hφ, (fun W h => fp0_1 W h) W hφ, (fun W h => fp0_2 W h) W hφ, (fun W h => fp0_3 W h) W hφ, (fun W h => DOwn.nil) W hφ⟩)) (.inr rfl)
     refine res_agg (tag := 100060) rfl rfl Try.isAgg84 Try.sizeOf84 <| res_tmp <| res_nil ?_
     exact rfl
    ·
     replace hm := ite_f hm (of_decide_eq_false h74)
     refine ga_rG (i := 8) (bz 20 511) rfl (by kernel_rfl) (by decide) rfl rfl rfl rfl rfl h74 (r_field (n := 7) Try.underlying25 rfl Try.sizeOf4 rfl rfl) <| ga_rG (i := 9) (bz 20 1023) rfl (by kernel_rfl) (by decide) rfl rfl rfl rfl rfl h74 (r_load (tag := 100040) rfl rfl rfl Try.isAgg4) <| ga_rG (i := 10) (bz 20 2047) rfl (by kernel_rfl) (by decide) rfl rfl rfl rfl rfl h74 (r_not rfl) <| ga_r (i := 11) (bz 20 4095) rfl (by kernel_rfl) (by decide) rfl (r_pick0 rfl h74) <| ga_r (i := 12) (bz 20 8191) rfl (by kernel_rfl) (by decide) rfl (r_move) ?_
     refine ga_if (t := 86) rfl (fun h75 => ?_) (fun h75 => ?_)
     ·
      have h75' : p1.fGood = false := by revert h75; cases p1.fGood <;> simp
      replace hm := ite_f hm (bool_nt h75')
      refine ga_no (i := 13) (bz 20 16383) rfl (by kernel_rfl) (fun _ _ _ _ h => h) rfl rfl rfl rfl rfl h75 <| ga_no (i := 14) (bz 20 32767) rfl (by kernel_rfl) (fun _ _ _ _ h => h) rfl rfl rfl rfl rfl h75 <| ga_no (i := 15) (bz 20 65535) rfl (by kernel_rfl) (fun _ _ _ _ h => h) rfl rfl rfl rfl rfl h75 <| ga_no (i := 16) (bz 20 131071) rfl (by kernel_rfl) (fun _ _ _ _ h => h) rfl rfl rfl rfl rfl h75 <| ga_no (i := 17) (bz 20 262143) rfl (by kernel_rfl) (fun _ _ _ _ h => h) rfl rfl rfl rfl rfl h75 <| ga_no (i := 18) (bz 20 524287) rfl (by kernel_rfl) (fun _ _ _ _ h => h) rfl rfl rfl rfl rfl h75 <| ga_r (i := 19) (bz 20 1048575) rfl (by kernel_rfl) (by decide) rfl (r_pick1 rfl h75) <| ga_done (by kernel_rfl) <| d_then ?_
      refine c_flat [(3, .pointer (some ⟨g1, 0, none⟩)), (4, .pointer (some ⟨g2, 0, none⟩)), (6, .pointer (some ⟨g3, 0, none⟩)), (93, .bool true)] ⟨rfl, rfl, rfl, rfl, trivial⟩ (fun u => ?_)
      refine c_cond1 rfl rfl <| c_seq <| c_region <| g_v rfl (r_loadA (tag := 100030) rfl rfl Try.isAgg84 Try.sizeOf84 rfl rfl) <| g_storeL (tag := 100060) rfl rfl rfl rfl Try.sizeOf84 rfl rfl <| g_v rfl r_assign <| g_nil <| d_then <| c_ret <| d_ret_then ?_
      refine d_ret_block <| d_ret_then ?_
      replace hm := Option.some.inj hm
      subst hm
      refine d_sta _ (fun W h => nilR h 13 25 11) <| d_sta _ (fun W h => ok_frontR (t := 13) (t' := 2004) h rfl) ?_
      refine d_retC (Ap0_0, cp0_0, Ap0_1, cp0_1, Ap0_2, cp0_2, Ap0_3, cp0_3, none, 0, ([] : List GNoteP)) Try.results38 ?_ ⟨hcp0_0, hcp0_1, hcp0_2, hcp0_3, ⟨DOk.nil, (Nat.le_refl 0)⟩⟩ (fun W h => (((h.dropH (t := 100060) rfl).dropH (t := 100040) rfl).dropH (t := 100030) rfl).phi (fun W hφ => ⟨hφ, (fun W h => fp0_0 W h) W hφ, (fun W h => fp0_1 W h) W hφ, (fun W h => fp0_2 W h) W hφ, (fun W h => fp0_3 W h) W hφ, (fun W h => DOwn.nil) W hφ⟩)) (.inr rfl)
      refine res_agg (tag := 100060) rfl rfl Try.isAgg84 Try.sizeOf84 <| res_tmp <| res_nil ?_
      exact rfl
     ·
      have h75' : p1.fGood = true := by revert h75; cases p1.fGood <;> simp
      replace hm := ite_t hm h75'
      refine ga_do (i := 13) (bz 20 16383) rfl (by kernel_rfl) (fun _ _ _ _ h => h) rfl rfl rfl rfl rfl h75 (r_loadA (tag := 100030) rfl rfl Try.isAgg84 Try.sizeOf84 rfl rfl) <| ga_do (i := 15) (bz 20 49151) rfl (by kernel_rfl) (fun _ _ _ _ h => h) rfl rfl rfl rfl rfl h75 (r_field (n := 1) Try.underlying25 rfl Try.sizeOf3 rfl rfl) <| ga_do (i := 16) (bz 20 114687) rfl (by kernel_rfl) (fun _ _ _ _ h => h) rfl rfl rfl rfl rfl h75 (r_load (tag := 100040) rfl rfl rfl Try.isAgg3) ?_
      replace hm := bnd hm
      obtain ⟨x76, hx77, hm⟩ := hm
      refine ga_cnG (first := #[]) (i := 14) (bz 20 131071) rfl (by kernel_rfl) (by decide) rfl rfl rfl rfl h75  ⟨w0, M, _, _, φ⟩ (fun _ h => h) Try.call40 rfl rfl rfl (c_raft_state_voters p0 Ap0_0 cp0_0 hcp0_0 (fun W hS => fp0_0 W hS.now) Ap0_1 cp0_1 hcp0_1 (fun W hS => fp0_1 W hS.now) Ap0_2 cp0_2 hcp0_2 (fun W hS => fp0_2 W hS.now) Ap0_3 cp0_3 hcp0_3 (fun W hS => fp0_3 W hS.now) _ hx77) (fun ⟨A78, c79⟩ W hc79 h => ((ok_frontR (t := 2000) (t' := 100880) h rfl).dropR (t := 100880) rfl).phi (fun W hφ => hφ)) (fun ⟨A78, c79⟩ hc79 => ?_)
      refine ga_sta _ (fun W h => (ok_frontR (t := 2000) (t' := 100880) h rfl)) ?_
      replace hm := bnd hm
      obtain ⟨x81, hx82, hm⟩ := hm
      refine ga_cnG (first := #[]) (i := 17) (bz 20 262143) rfl (by kernel_rfl) (by decide) rfl rfl rfl rfl h75  ⟨w0, M, _, _, φ⟩ (fun _ h => h) Try.call35 rfl rfl rfl (c_slices_Contains_35 x76 A78 c79 hc79 (fun W hS => rowCl (tag := 100880) rfl W hS) p1.fFrom _ hx82) (fun _ W _ h => (h.dropR (t := 100880) rfl).phi (fun W hφ => hφ)) (fun _ _ => ?_)
      refine ga_rG (i := 18) (bz 20 524287) rfl (by kernel_rfl) (by decide) rfl rfl rfl rfl rfl h75 (r_not rfl) <| ga_r (i := 19) (bz 20 1048575) rfl (by kernel_rfl) (by decide) rfl (r_pick0 rfl h75) <| ga_done (by kernel_rfl) <| d_then ?_
      refine c_flat [(3, .pointer (some ⟨g1, 0, none⟩)), (4, .pointer (some ⟨g2, 0, none⟩)), (6, .pointer (some ⟨g3, 0, none⟩)), (93, .bool (!x81))] ⟨rfl, rfl, rfl, rfl, trivial⟩ (fun u => ?_)
      refine c_sta ⟨w0, M, (100060, g3, .cells #[.int .i64 0, .int .i64 0, .int .i64 0, .int .i64 0, .int .i64 0, .int .i64 0, .int .i64 0, .slice none 0 0, .string (⟨#[]⟩ : ByteArray), .int .i64 0, .int .i64 0, .slice none 0 0, .slice none 0 0, .slice none 0 0] 84 (0, 0)) :: (100040, g2, .cells #[.int .i64 p1.fKind, .int .i64 p1.fFrom, .int .i64 p1.fTo, .int .i64 p1.fTerm, .int .i64 p1.fIndex, .int .i64 p1.fLogTerm, .int .i64 p1.fCommit, .bool p1.fGood, .slice Ap1_0 p1.fEntries.length cp1_0, .slice Ap1_1 p1.fVoters.length cp1_1, .string p1.fSnap] 25 (0, 0)) :: (100030, g1, .cells #[.int .i64 p0.fRaft.fMe, .int .i64 p0.fRaft.fRole, .int .i64 p0.fRaft.fLeader, .int .i64 p0.fRaft.fCommit, .int .i64 p0.fRaft.fLeft, .int .i64 p0.fRaft.fHard.fTerm, .int .i64 p0.fRaft.fHard.fVote, .slice Ap0_0 p0.fRaft.fHard.fVoters.length cp0_0, .string p0.fRaft.fHard.fSnap, .int .i64 p0.fRaft.fHard.fLog.fBase, .int .i64 p0.fRaft.fHard.fLog.fBaseTerm, .slice Ap0_1 p0.fRaft.fHard.fLog.fEntries.length cp0_1, .slice Ap0_2 p0.fRaft.fVotes.length cp0_2, .slice Ap0_3 p0.fRaft.fMarks.length cp0_3] 84 (0, 0)) :: H, (100880, ⟨.slice A78 x76.length c79, 3, 1, x76.length, x76.flatMap (fun x : Int => [Value.int .i64 x])⟩) :: R, φ⟩ (fun _ h => h) ?_
      refine c_cond rfl (fun h83 => ?_) (fun h83 => ?_)
      ·
       have h83' : x81 = false := by revert h83; cases x81 <;> simp
       replace hm := ite_f hm (bool_nt h83')
       refine c_seq <| c_region <| g_v rfl (r_loadA (tag := 100030) rfl rfl Try.isAgg84 Try.sizeOf84 rfl rfl) <| g_storeL (tag := 100060) rfl rfl rfl rfl Try.sizeOf84 rfl rfl <| g_v rfl r_assign <| g_nil <| d_then <| c_ret <| d_ret_then <| d_ret_block ?_
       refine d_ret_then ?_
       replace hm := Option.some.inj hm
       subst hm
       refine d_sta _ (fun W h => nilR h 14 25 11) <| d_sta _ (fun W h => ok_frontR (t := 14) (t' := 2004) h rfl) ?_
       refine d_retC (Ap0_0, cp0_0, Ap0_1, cp0_1, Ap0_2, cp0_2, Ap0_3, cp0_3, none, 0, ([] : List GNoteP)) Try.results38 ?_ ⟨hcp0_0, hcp0_1, hcp0_2, hcp0_3, ⟨DOk.nil, (Nat.le_refl 0)⟩⟩ (fun W h => ((((h.dropR (t := 100880) rfl).dropH (t := 100060) rfl).dropH (t := 100040) rfl).dropH (t := 100030) rfl).phi (fun W hφ => ⟨hφ, (fun W h => fp0_0 W h) W hφ, (fun W h => fp0_1 W h) W hφ, (fun W h => fp0_2 W h) W hφ, (fun W h => fp0_3 W h) W hφ, (fun W h => DOwn.nil) W hφ⟩)) (.inr rfl)
       refine res_agg (tag := 100060) rfl rfl Try.isAgg84 Try.sizeOf84 <| res_tmp <| res_nil ?_
       exact rfl
      ·
       have h83' : x81 = true := by revert h83; cases x81 <;> simp
       replace hm := ite_t hm h83'
       refine c_skip <| d_then <| c_seq <| c_region <| g_v rfl (r_loadA (tag := 100030) rfl rfl Try.isAgg84 Try.sizeOf84 rfl rfl) <| g_v rfl (r_field (n := 1) Try.underlying25 rfl Try.sizeOf3 rfl rfl) <| g_v rfl (r_load (tag := 100040) rfl rfl rfl Try.isAgg3) ?_
       replace hm := bnd hm
       obtain ⟨⟨x84, x85⟩, hx86, hm⟩ := hm
       refine g_cn ⟨w0, M, _, _, φ⟩ (fun _ h => h) Try.call59 rfl rfl (c_raft_state_voted p0 Ap0_0 cp0_0 hcp0_0 (fun W h => fp0_0 W h) Ap0_1 cp0_1 hcp0_1 (fun W h => fp0_1 W h) Ap0_2 cp0_2 hcp0_2 (fun W hS => fp0_2 W hS.now) Ap0_3 cp0_3 hcp0_3 (fun W h => fp0_3 W h) p1.fFrom _ hx86) (fun ⟨A87, c88, A90, c91, A93, c94, A96, c97, A99, c100, ps102⟩ ⟨hc88, hc91, hc94, hc97, hc100⟩ => ?_)
       refine g_sta _ (fun W h => (ok_frontR (t := 2004) (t' := 100984) h rfl)) ?_
       refine g_abs (fun φ104 q104' => ?_)
       have q104 : ∀ W, φ104 W → φ W := fun W h => (q104' W h).1
       have f89 := fun (W : World) (h : φ104 W) => (q104' W h).2.1
       have f92 := fun (W : World) (h : φ104 W) => (q104' W h).2.2.1
       have f95 := fun (W : World) (h : φ104 W) => (q104' W h).2.2.2.1
       have f98 := fun (W : World) (h : φ104 W) => (q104' W h).2.2.2.2.1
       have f103 := fun (W : World) (h : φ104 W) => (q104' W h).2.2.2.2.2
       refine g_v rfl (r_extract rfl rfl) <| g_v rfl (r_extract rfl rfl) <| g_storeL (tag := 100060) rfl rfl rfl rfl Try.sizeOf84 rfl rfl <| g_v rfl r_assign <| g_nil <| d_then <| c_ret <| d_ret_block <| d_ret_then ?_
       replace hm := Option.some.inj hm
       subst hm
       refine d_sta _ (fun W h => ok_frontR (t := 100984) (t' := 2004) h rfl) ?_
       refine d_retC (A87, c88, A90, c91, A93, c94, A96, c97, A99, c100, ps102) Try.results38 ?_ ⟨hc88, hc91, hc94, hc97, ⟨hc100.1, hc100.2⟩⟩ (fun W h => ((((h.dropR (t := 100880) rfl).dropH (t := 100060) rfl).dropH (t := 100040) rfl).dropH (t := 100030) rfl).phi (fun W hφ => ⟨(q104 _ hφ), (fun W h => f89 W h) W hφ, (fun W h => f92 W h) W hφ, (fun W h => f95 W h) W hφ, (fun W h => f98 W h) W hφ, (fun W h => (f103 W h)) W hφ⟩)) (.inr rfl)
       refine res_agg (tag := 100060) rfl rfl Try.isAgg84 Try.sizeOf84 <| res_tmp <| res_nil ?_
       exact rfl
  ·
   replace hm := ite_f hm (of_decide_eq_false h52)
   refine c_seq <| c_region <| g_v rfl (r_eql rfl rfl) <| g_v rfl r_assign <| g_nil <| d_then ?_
   refine c_cond rfl (fun h106 => ?_) (fun h106 => ?_)
   ·
    replace hm := ite_t hm (of_decide_eq_true h106)
    refine c_seq <| c_seq <| c_region <| g_v rfl r_move <| g_v rfl r_move ?_
    refine g_if rfl rfl rfl rfl rfl (fun h107 => ?_) (fun h107 => ?_)
    ·
     replace hm := ite_f hm (of_decide_eq_false h107)
     refine g_v rfl (r_field (n := 0) Try.underlying84 rfl Try.sizeOf43 rfl rfl) <| g_do rfl rfl rfl rfl rfl h107 <| g_v rfl (r_field (n := 1) Try.underlying43 rfl Try.sizeOf3 rfl rfl) <| g_do rfl rfl rfl rfl rfl h107 <| g_v rfl (r_load (tag := 100030) rfl rfl rfl Try.isAgg3) <| g_do rfl rfl rfl rfl rfl h107 <| g_v rfl (r_neq rfl rfl) <| g_v rfl (r_pick0 rfl h107) <| g_nil <| d_then ?_
     refine c_flat [(3, .pointer (some ⟨g1, 0, none⟩)), (4, .pointer (some ⟨g2, 0, none⟩)), (6, .pointer (some ⟨g3, 0, none⟩)), (109, .bool (decide (p0.fRaft.fRole ≠ 2)))] ⟨rfl, rfl, rfl, rfl, trivial⟩ (fun u => ?_)
     refine c_cond rfl (fun h108 => ?_) (fun h108 => ?_)
     ·
      replace hm := ite_t hm (of_decide_eq_true h108)
      refine c_seq <| c_region <| g_v rfl (r_loadA (tag := 100030) rfl rfl Try.isAgg84 Try.sizeOf84 rfl rfl) <| g_storeL (tag := 100060) rfl rfl rfl rfl Try.sizeOf84 rfl rfl <| g_v rfl r_assign <| g_nil <| d_then <| c_ret <| d_ret_then <| d_ret_block ?_
      refine d_ret_then ?_
      replace hm := Option.some.inj hm
      subst hm
      refine d_sta _ (fun W h => nilR h 15 25 11) <| d_sta _ (fun W h => ok_frontR (t := 15) (t' := 2004) h rfl) ?_
      refine d_retC (Ap0_0, cp0_0, Ap0_1, cp0_1, Ap0_2, cp0_2, Ap0_3, cp0_3, none, 0, ([] : List GNoteP)) Try.results38 ?_ ⟨hcp0_0, hcp0_1, hcp0_2, hcp0_3, ⟨DOk.nil, (Nat.le_refl 0)⟩⟩ (fun W h => (((h.dropH (t := 100060) rfl).dropH (t := 100040) rfl).dropH (t := 100030) rfl).phi (fun W hφ => ⟨hφ, (fun W h => fp0_0 W h) W hφ, (fun W h => fp0_1 W h) W hφ, (fun W h => fp0_2 W h) W hφ, (fun W h => fp0_3 W h) W hφ, (fun W h => DOwn.nil) W hφ⟩)) (.inr rfl)
      refine res_agg (tag := 100060) rfl rfl Try.isAgg84 Try.sizeOf84 <| res_tmp <| res_nil ?_
      exact rfl
     ·
      replace hm := ite_f hm (of_decide_eq_false h108)
      refine c_skip <| d_then <| c_seq <| c_region <| g_v rfl (r_loadA (tag := 100030) rfl rfl Try.isAgg84 Try.sizeOf84 rfl rfl) <| g_v rfl (r_loadA (tag := 100040) rfl rfl Try.isAgg25 Try.sizeOf25 rfl rfl) ?_
      replace hm := bnd hm
      obtain ⟨⟨x109, x110⟩, hx111, hm⟩ := hm
      refine g_cn ⟨w0, M, _, _, φ⟩ (fun _ h => h) Try.call60 rfl rfl (c_raft_state_answered p0 Ap0_0 cp0_0 hcp0_0 (fun W h => fp0_0 W h) Ap0_1 cp0_1 hcp0_1 (fun W h => fp0_1 W h) Ap0_2 cp0_2 hcp0_2 (fun W h => fp0_2 W h) Ap0_3 cp0_3 hcp0_3 (fun W h => fp0_3 W h) p1 Ap1_0 cp1_0 hcp1_0 (fun W h => fp1_0 W h) Ap1_1 cp1_1 hcp1_1 (fun W h => fp1_1 W h) _ hx111) (fun ⟨A112, c113, A115, c116, A118, c119, A121, c122, A124, c125, ps127⟩ ⟨hc113, hc116, hc119, hc122, hc125⟩ => ?_)
      refine g_sta _ (fun W h => (ok_frontR (t := 2004) (t' := 101134) h rfl)) ?_
      refine g_abs (fun φ129 q129' => ?_)
      have q129 : ∀ W, φ129 W → φ W := fun W h => (q129' W h).1
      have f114 := fun (W : World) (h : φ129 W) => (q129' W h).2.1
      have f117 := fun (W : World) (h : φ129 W) => (q129' W h).2.2.1
      have f120 := fun (W : World) (h : φ129 W) => (q129' W h).2.2.2.1
      have f123 := fun (W : World) (h : φ129 W) => (q129' W h).2.2.2.2.1
      have f128 := fun (W : World) (h : φ129 W) => (q129' W h).2.2.2.2.2
      refine g_v rfl (r_extract rfl rfl) <| g_v rfl (r_extract rfl rfl) <| g_storeL (tag := 100060) rfl rfl rfl rfl Try.sizeOf84 rfl rfl <| g_v rfl r_assign <| g_nil <| d_then <| c_ret <| d_ret_block <| d_ret_then ?_
      replace hm := Option.some.inj hm
      subst hm
      refine d_sta _ (fun W h => ok_frontR (t := 101134) (t' := 2004) h rfl) ?_
      refine d_retC (A112, c113, A115, c116, A118, c119, A121, c122, A124, c125, ps127) Try.results38 ?_ ⟨hc113, hc116, hc119, hc122, ⟨hc125.1, hc125.2⟩⟩ (fun W h => (((h.dropH (t := 100060) rfl).dropH (t := 100040) rfl).dropH (t := 100030) rfl).phi (fun W hφ => ⟨(q129 _ hφ), (fun W h => f114 W h) W hφ, (fun W h => f117 W h) W hφ, (fun W h => f120 W h) W hφ, (fun W h => f123 W h) W hφ, (fun W h => (f128 W h)) W hφ⟩)) (.inr rfl)
      refine res_agg (tag := 100060) rfl rfl Try.isAgg84 Try.sizeOf84 <| res_tmp <| res_nil ?_
      exact rfl
    ·
     replace hm := ite_t hm (of_decide_eq_true h107)
     refine g_no rfl rfl rfl rfl rfl h107 <| g_no rfl rfl rfl rfl rfl h107 <| g_no rfl rfl rfl rfl rfl h107 <| g_v rfl (r_pick1 rfl h107) <| g_nil <| d_then ?_
     refine c_flat [(3, .pointer (some ⟨g1, 0, none⟩)), (4, .pointer (some ⟨g2, 0, none⟩)), (6, .pointer (some ⟨g3, 0, none⟩)), (109, .bool true)] ⟨rfl, rfl, rfl, rfl, trivial⟩ (fun u => ?_)
     refine c_cond1 rfl rfl <| c_seq <| c_region <| g_v rfl (r_loadA (tag := 100030) rfl rfl Try.isAgg84 Try.sizeOf84 rfl rfl) <| g_storeL (tag := 100060) rfl rfl rfl rfl Try.sizeOf84 rfl rfl <| g_v rfl r_assign <| g_nil <| d_then <| c_ret <| d_ret_then ?_
     refine d_ret_block <| d_ret_then ?_
     replace hm := Option.some.inj hm
     subst hm
     refine d_sta _ (fun W h => nilR h 16 25 11) <| d_sta _ (fun W h => ok_frontR (t := 16) (t' := 2004) h rfl) ?_
     refine d_retC (Ap0_0, cp0_0, Ap0_1, cp0_1, Ap0_2, cp0_2, Ap0_3, cp0_3, none, 0, ([] : List GNoteP)) Try.results38 ?_ ⟨hcp0_0, hcp0_1, hcp0_2, hcp0_3, ⟨DOk.nil, (Nat.le_refl 0)⟩⟩ (fun W h => (((h.dropH (t := 100060) rfl).dropH (t := 100040) rfl).dropH (t := 100030) rfl).phi (fun W hφ => ⟨hφ, (fun W h => fp0_0 W h) W hφ, (fun W h => fp0_1 W h) W hφ, (fun W h => fp0_2 W h) W hφ, (fun W h => fp0_3 W h) W hφ, (fun W h => DOwn.nil) W hφ⟩)) (.inr rfl)
     refine res_agg (tag := 100060) rfl rfl Try.isAgg84 Try.sizeOf84 <| res_tmp <| res_nil ?_
     exact rfl
   ·
    replace hm := ite_f hm (of_decide_eq_false h106)
    refine c_skip <| d_normal_block <| d_then <| c_seq <| c_block <| c_seq <| c_region <| g_v rfl r_move <| g_v rfl r_assign <| g_nil ?_
    refine d_then ?_
    refine c_flat [(2, .int .i64 p2), (3, .pointer (some ⟨g1, 0, none⟩)), (4, .pointer (some ⟨g2, 0, none⟩)), (6, .pointer (some ⟨g3, 0, none⟩)), (116, .bool (decide (p1.fTerm < p0.fRaft.fHard.fTerm)))] ⟨rfl, rfl, rfl, rfl, rfl, trivial⟩ (fun u => ?_)
    refine c_cond rfl (fun h131 => ?_) (fun h131 => ?_)
    ·
     replace hm := ite_t hm (of_decide_eq_true h131)
     refine c_seq <| ga_start (n := 6) ⟨w0, M, (100060, g3, .cells #[.int .i64 0, .int .i64 0, .int .i64 0, .int .i64 0, .int .i64 0, .int .i64 0, .int .i64 0, .slice none 0 0, .string (⟨#[]⟩ : ByteArray), .int .i64 0, .int .i64 0, .slice none 0 0, .slice none 0 0, .slice none 0 0] 84 (0, 0)) :: (100040, g2, .cells #[.int .i64 p1.fKind, .int .i64 p1.fFrom, .int .i64 p1.fTo, .int .i64 p1.fTerm, .int .i64 p1.fIndex, .int .i64 p1.fLogTerm, .int .i64 p1.fCommit, .bool p1.fGood, .slice Ap1_0 p1.fEntries.length cp1_0, .slice Ap1_1 p1.fVoters.length cp1_1, .string p1.fSnap] 25 (0, 0)) :: (100030, g1, .cells #[.int .i64 p0.fRaft.fMe, .int .i64 p0.fRaft.fRole, .int .i64 p0.fRaft.fLeader, .int .i64 p0.fRaft.fCommit, .int .i64 p0.fRaft.fLeft, .int .i64 p0.fRaft.fHard.fTerm, .int .i64 p0.fRaft.fHard.fVote, .slice Ap0_0 p0.fRaft.fHard.fVoters.length cp0_0, .string p0.fRaft.fHard.fSnap, .int .i64 p0.fRaft.fHard.fLog.fBase, .int .i64 p0.fRaft.fHard.fLog.fBaseTerm, .slice Ap0_1 p0.fRaft.fHard.fLog.fEntries.length cp0_1, .slice Ap0_2 p0.fRaft.fVotes.length cp0_2, .slice Ap0_3 p0.fRaft.fMarks.length cp0_3] 84 (0, 0)) :: H, R, φ⟩ [4] #[false, false, false, false, false, false] (fun W h => h.phi (fun W hφ => hφ)) mixed rfl rfl <| ga_v (i := 0) (bz 6 1) rfl (by kernel_rfl) (fun _ _ _ _ h => h) rfl (r_loadA (tag := 100030) rfl rfl Try.isAgg84 Try.sizeOf84 rfl rfl) <| ga_v (i := 1) (bz 6 3) rfl (by kernel_rfl) (fun _ _ _ _ h => h) rfl (r_loadA (tag := 100030) rfl rfl Try.isAgg84 Try.sizeOf84 rfl rfl) <| ga_r (i := 2) (bz 6 7) rfl (by kernel_rfl) (by decide) rfl (r_loadA (tag := 100040) rfl rfl Try.isAgg25 Try.sizeOf25 rfl rfl) ?_
     replace hm := bnd hm
     obtain ⟨x148, hx149, hm⟩ := hm
     refine ga_cn (first := #[]) (i := 3) (bz 6 15) rfl (by kernel_rfl) (by decide)  ⟨w0, M, _, _, φ⟩ (fun _ h => h) Try.call58 rfl rfl rfl (c_raft_state_answers p0 Ap0_0 cp0_0 hcp0_0 (fun W hS => fp0_0 W hS.now) Ap0_1 cp0_1 hcp0_1 (fun W hS => fp0_1 W hS.now) Ap0_2 cp0_2 hcp0_2 (fun W hS => fp0_2 W hS.now) Ap0_3 cp0_3 hcp0_3 (fun W hS => fp0_3 W hS.now) p1 Ap1_0 cp1_0 hcp1_0 (fun W hS => fp1_0 W hS.now) Ap1_1 cp1_1 hcp1_1 (fun W hS => fp1_1 W hS.now) 5 0 false _ hx149) (fun ⟨A150, c151, ps153⟩ W hc151 h => (((ok_frontR (t := 2000) (t' := 101210) h rfl).phi (fun _ hh => hh.1)).dropR (t := 101210) rfl).phi (fun W hφ => hφ)) (fun ⟨A150, c151, ps153⟩ hc151 => ?_)
     refine ga_sta _ (fun W h => (ok_frontR (t := 2000) (t' := 101210) h rfl)) ?_
     refine ga_abs (fun φ155 q155' => ?_)
     have q155 : ∀ W, φ155 W → φ W := fun W h => (q155' W h).1
     have f154 := fun (W : World) (h : φ155 W) => (q155' W h).2
     refine ga_lastL (i := 4) (tag := 100060) (bz 6 31) rfl (by kernel_rfl) (by decide) rfl rfl rfl rfl Try.sizeOf84 rfl rfl <| gz_p (i := 5) (bz 6 63) rfl (.inr rfl) (by kernel_rfl) (fun _ _ _ _ h => h) rfl <| gz_done (by kernel_rfl) <| d_then <| c_ret <| d_ret_block <| d_ret_then ?_
     replace hm := Option.some.inj hm
     subst hm
     refine d_sta _ (fun W h => ok_frontR (t := 101210) (t' := 2004) h rfl) ?_
     refine d_retC (Ap0_0, cp0_0, Ap0_1, cp0_1, Ap0_2, cp0_2, Ap0_3, cp0_3, A150, c151, ps153) Try.results38 ?_ ⟨hcp0_0, hcp0_1, hcp0_2, hcp0_3, ⟨hc151.1, hc151.2⟩⟩ (fun W h => (((h.dropH (t := 100060) rfl).dropH (t := 100040) rfl).dropH (t := 100030) rfl).phi (fun W hφ => ⟨(q155 _ hφ), (fun W h => fp0_0 W (q155 _ h)) W hφ, (fun W h => fp0_1 W (q155 _ h)) W hφ, (fun W h => fp0_2 W (q155 _ h)) W hφ, (fun W h => fp0_3 W (q155 _ h)) W hφ, (fun W h => (f154 W h)) W hφ⟩)) (.inr rfl)
     refine res_agg (tag := 100060) rfl rfl Try.isAgg84 Try.sizeOf84 <| res_tmp <| res_nil ?_
     exact rfl
    ·
     replace hm := ite_f hm (of_decide_eq_false h131)
     refine c_seq <| c_region <| g_v rfl (r_field (n := 0) Try.underlying84 rfl Try.sizeOf43 rfl rfl) <| g_v rfl (r_field (n := 1) Try.underlying43 rfl Try.sizeOf3 rfl rfl) <| g_v rfl (r_load (tag := 100030) rfl rfl rfl Try.isAgg3) <| g_v rfl (r_eql rfl rfl) <| g_v rfl r_assign <| g_nil <| d_then ?_
     refine c_cond rfl (fun h156 => ?_) (fun h156 => ?_)
     ·
      replace hm := ite_t hm (of_decide_eq_true h156)
      refine c_seq <| c_region <| g_v rfl (r_loadA (tag := 100030) rfl rfl Try.isAgg84 Try.sizeOf84 rfl rfl) <| g_storeL (tag := 100060) rfl rfl rfl rfl Try.sizeOf84 rfl rfl <| g_v rfl r_assign <| g_nil <| d_then <| c_ret <| d_ret_block <| d_ret_then ?_
      replace hm := Option.some.inj hm
      subst hm
      refine d_sta _ (fun W h => nilR h 17 25 11) <| d_sta _ (fun W h => ok_frontR (t := 17) (t' := 2004) h rfl) ?_
      refine d_retC (Ap0_0, cp0_0, Ap0_1, cp0_1, Ap0_2, cp0_2, Ap0_3, cp0_3, none, 0, ([] : List GNoteP)) Try.results38 ?_ ⟨hcp0_0, hcp0_1, hcp0_2, hcp0_3, ⟨DOk.nil, (Nat.le_refl 0)⟩⟩ (fun W h => (((h.dropH (t := 100060) rfl).dropH (t := 100040) rfl).dropH (t := 100030) rfl).phi (fun W hφ => ⟨hφ, (fun W h => fp0_0 W h) W hφ, (fun W h => fp0_1 W h) W hφ, (fun W h => fp0_2 W h) W hφ, (fun W h => fp0_3 W h) W hφ, (fun W h => DOwn.nil) W hφ⟩)) (.inr rfl)
      refine res_agg (tag := 100060) rfl rfl Try.isAgg84 Try.sizeOf84 <| res_tmp <| res_nil ?_
      exact rfl
     ·
      replace hm := ite_f hm (of_decide_eq_false h156)
      refine c_skip <| d_normal_block <| d_then <| c_seq <| ga_start (n := 16) ⟨w0, M, (100060, g3, .cells #[.int .i64 0, .int .i64 0, .int .i64 0, .int .i64 0, .int .i64 0, .int .i64 0, .int .i64 0, .slice none 0 0, .string (⟨#[]⟩ : ByteArray), .int .i64 0, .int .i64 0, .slice none 0 0, .slice none 0 0, .slice none 0 0] 84 (0, 0)) :: (100040, g2, .cells #[.int .i64 p1.fKind, .int .i64 p1.fFrom, .int .i64 p1.fTo, .int .i64 p1.fTerm, .int .i64 p1.fIndex, .int .i64 p1.fLogTerm, .int .i64 p1.fCommit, .bool p1.fGood, .slice Ap1_0 p1.fEntries.length cp1_0, .slice Ap1_1 p1.fVoters.length cp1_1, .string p1.fSnap] 25 (0, 0)) :: H, R, φ⟩ [] #[false, false, false, false, false, false, false, false, false, false, false, false, false, false, false, false] (fun W h => (h.dropH (t := 100030) rfl).phi (fun W hφ => hφ)) mixed rfl rfl <| ga_v (i := 0) (bz 16 1) rfl (by kernel_rfl) (fun _ _ _ _ h => h) rfl (r_field (n := 1) Try.underlying25 rfl Try.sizeOf3 rfl rfl) <| ga_v (i := 1) (bz 16 3) rfl (by kernel_rfl) (fun _ _ _ _ h => h) rfl (r_load (tag := 100040) rfl rfl rfl Try.isAgg3) <| ga_v (i := 2) (bz 16 7) rfl (by kernel_rfl) (fun _ _ _ _ h => h) rfl (r_add rfl rfl rfl) <| ga_v (i := 3) (bz 16 15) rfl (by kernel_rfl) (fun _ _ _ _ h => h) rfl (r_move) <| ga_r (i := 4) (bz 16 31) rfl (by kernel_rfl) (by decide) rfl (r_field (n := 0) Try.underlying84 rfl Try.sizeOf43 rfl rfl) ?_
      refine ga_r (i := 5) (bz 16 63) rfl (by kernel_rfl) (by decide) rfl (r_field (n := 1) Try.underlying43 rfl Try.sizeOf3 rfl rfl) <| ga_storeN (i := 6) (tag := 100030) (bz 16 127) rfl (by kernel_rfl) (by decide) rfl rfl rfl rfl Try.sizeOf3 rfl rfl (fun W h => (h.dropH (t := 100030) rfl).phi (fun W hφ => hφ)) <| ga_r (i := 7) (bz 16 255) rfl (by kernel_rfl) (by decide) rfl (r_field (n := 0) Try.underlying84 rfl Try.sizeOf43 rfl rfl) <| ga_r (i := 8) (bz 16 511) rfl (by kernel_rfl) (by decide) rfl (r_field (n := 2) Try.underlying43 rfl Try.sizeOf3 rfl rfl) <| ga_storeN (i := 9) (tag := 100030) (bz 16 1023) rfl (by kernel_rfl) (by decide) rfl rfl rfl rfl Try.sizeOf3 rfl rfl (fun W h => (h.dropH (t := 100030) rfl).phi (fun W hφ => hφ)) <| ga_r (i := 10) (bz 16 2047) rfl (by kernel_rfl) (by decide) rfl (r_field (n := 0) Try.underlying84 rfl Try.sizeOf43 rfl rfl) <| ga_r (i := 11) (bz 16 4095) rfl (by kernel_rfl) (by decide) rfl (r_field (n := 12) Try.underlying43 rfl Try.sizeOf23 rfl rfl) <| ga_storeN (i := 12) (tag := 100030) (bz 16 8191) rfl (by kernel_rfl) (by decide) rfl rfl rfl rfl Try.sizeOf23 rfl rfl (fun W h => (h.dropH (t := 100030) rfl).phi (fun W hφ => hφ)) <| ga_r (i := 13) (bz 16 16383) rfl (by kernel_rfl) (by decide) rfl (r_field (n := 0) Try.underlying84 rfl Try.sizeOf43 rfl rfl) <| ga_r (i := 14) (bz 16 32767) rfl (by kernel_rfl) (by decide) rfl (r_field (n := 4) Try.underlying43 rfl Try.sizeOf3 rfl rfl) ?_
      refine ga_storeN (i := 15) (tag := 100030) (bz 16 65535) rfl (by kernel_rfl) (by decide) rfl rfl rfl rfl Try.sizeOf3 rfl rfl (fun W h => (h.dropH (t := 100030) rfl).phi (fun W hφ => hφ)) <| ga_done (by kernel_rfl) <| d_then ?_
      refine c_flat [(3, .pointer (some ⟨g1, 0, none⟩)), (4, .pointer (some ⟨g2, 0, none⟩)), (6, .pointer (some ⟨g3, 0, none⟩))] ⟨rfl, rfl, rfl, trivial⟩ (fun u => ?_)
      refine c_sta ⟨w0, M, (100060, g3, .cells #[.int .i64 0, .int .i64 0, .int .i64 0, .int .i64 0, .int .i64 0, .int .i64 0, .int .i64 0, .slice none 0 0, .string (⟨#[]⟩ : ByteArray), .int .i64 0, .int .i64 0, .slice none 0 0, .slice none 0 0, .slice none 0 0] 84 (0, 0)) :: (100040, g2, .cells #[.int .i64 p1.fKind, .int .i64 p1.fFrom, .int .i64 p1.fTo, .int .i64 p1.fTerm, .int .i64 p1.fIndex, .int .i64 p1.fLogTerm, .int .i64 p1.fCommit, .bool p1.fGood, .slice Ap1_0 p1.fEntries.length cp1_0, .slice Ap1_1 p1.fVoters.length cp1_1, .string p1.fSnap] 25 (0, 0)) :: (100030, g1, .cells #[.int .i64 p0.fRaft.fMe, .int .i64 0, .int .i64 (w64 (p1.fFrom + 1)), .int .i64 p0.fRaft.fCommit, .int .i64 p2, .int .i64 p0.fRaft.fHard.fTerm, .int .i64 p0.fRaft.fHard.fVote, .slice Ap0_0 p0.fRaft.fHard.fVoters.length cp0_0, .string p0.fRaft.fHard.fSnap, .int .i64 p0.fRaft.fHard.fLog.fBase, .int .i64 p0.fRaft.fHard.fLog.fBaseTerm, .slice Ap0_1 p0.fRaft.fHard.fLog.fEntries.length cp0_1, .slice none 0 0, .slice Ap0_3 p0.fRaft.fMarks.length cp0_3] 84 (0, 0)) :: H, R, φ⟩ (fun _ h => h) <| c_seq <| c_seq <| c_region <| g_v rfl (r_field (n := 0) Try.underlying25 rfl Try.sizeOf3 rfl rfl) <| g_v rfl (r_load (tag := 100040) rfl rfl rfl Try.isAgg3) <| g_v rfl (r_eql rfl rfl) <| g_nil <| d_then ?_
      refine c_cond rfl (fun h157 => ?_) (fun h157 => ?_)
      ·
       replace hm := ite_t hm (of_decide_eq_true h157)
       refine c_seq <| c_region <| g_v rfl (r_loadA (tag := 100030) rfl rfl Try.isAgg84 Try.sizeOf84 rfl rfl) <| g_v rfl (r_loadA (tag := 100040) rfl rfl Try.isAgg25 Try.sizeOf25 rfl rfl) ?_
       replace hm := bnd hm
       obtain ⟨⟨x158, x159⟩, hx160, hm⟩ := hm
       refine g_cn ⟨w0, M, _, _, φ⟩ (fun _ h => h) Try.call61 rfl rfl (c_raft_state_installed (⟨(⟨p0.fRaft.fMe, 0, w64 (p1.fFrom + 1), p0.fRaft.fCommit, p2, p0.fRaft.fHard, ([] : List Int), p0.fRaft.fMarks⟩ : GRaft)⟩ : Graft_state) Ap0_0 cp0_0 hcp0_0 (fun W h => fp0_0 W h) Ap0_1 cp0_1 hcp0_1 (fun W h => fp0_1 W h) none 0 (Nat.le_refl 0) (fun W _ => Cl.nil _ _) Ap0_3 cp0_3 hcp0_3 (fun W h => fp0_3 W h) p1 Ap1_0 cp1_0 hcp1_0 (fun W hS => fp1_0 W hS.now) Ap1_1 cp1_1 hcp1_1 (fun W hS => fp1_1 W hS.now) _ hx160) (fun ⟨A161, c162, A164, c165, A167, c168, A170, c171, A173, c174, ps176⟩ ⟨hc162, hc165, hc168, hc171, hc174⟩ => ?_)
       refine g_sta _ (fun W h => (ok_frontR (t := 2004) (t' := 101454) h rfl)) ?_
       refine g_abs (fun φ178 q178' => ?_)
       have q178 : ∀ W, φ178 W → φ W := fun W h => (q178' W h).1
       have f163 := fun (W : World) (h : φ178 W) => (q178' W h).2.1
       have f166 := fun (W : World) (h : φ178 W) => (q178' W h).2.2.1
       have f169 := fun (W : World) (h : φ178 W) => (q178' W h).2.2.2.1
       have f172 := fun (W : World) (h : φ178 W) => (q178' W h).2.2.2.2.1
       have f177 := fun (W : World) (h : φ178 W) => (q178' W h).2.2.2.2.2
       refine g_v rfl (r_extract rfl rfl) <| g_v rfl (r_extract rfl rfl) <| g_storeL (tag := 100060) rfl rfl rfl rfl Try.sizeOf84 rfl rfl <| g_v rfl r_assign <| g_nil <| d_then ?_
       refine c_flat [(6, .pointer (some ⟨g3, 0, none⟩)), (7, .slice A173 x159.length c174)] ⟨rfl, rfl, trivial⟩ (fun u => ?_)
       refine c_sta ⟨w0, M, (100060, g3, .cells #[.int .i64 x158.fRaft.fMe, .int .i64 x158.fRaft.fRole, .int .i64 x158.fRaft.fLeader, .int .i64 x158.fRaft.fCommit, .int .i64 x158.fRaft.fLeft, .int .i64 x158.fRaft.fHard.fTerm, .int .i64 x158.fRaft.fHard.fVote, .slice A161 x158.fRaft.fHard.fVoters.length c162, .string x158.fRaft.fHard.fSnap, .int .i64 x158.fRaft.fHard.fLog.fBase, .int .i64 x158.fRaft.fHard.fLog.fBaseTerm, .slice A164 x158.fRaft.fHard.fLog.fEntries.length c165, .slice A167 x158.fRaft.fVotes.length c168, .slice A170 x158.fRaft.fMarks.length c171] 84 (0, 0)) :: (100040, g2, .cells #[.int .i64 p1.fKind, .int .i64 p1.fFrom, .int .i64 p1.fTo, .int .i64 p1.fTerm, .int .i64 p1.fIndex, .int .i64 p1.fLogTerm, .int .i64 p1.fCommit, .bool p1.fGood, .slice Ap1_0 p1.fEntries.length cp1_0, .slice Ap1_1 p1.fVoters.length cp1_1, .string p1.fSnap] 25 (0, 0)) :: (100030, g1, .cells #[.int .i64 p0.fRaft.fMe, .int .i64 0, .int .i64 (w64 (p1.fFrom + 1)), .int .i64 p0.fRaft.fCommit, .int .i64 p2, .int .i64 p0.fRaft.fHard.fTerm, .int .i64 p0.fRaft.fHard.fVote, .slice Ap0_0 p0.fRaft.fHard.fVoters.length cp0_0, .string p0.fRaft.fHard.fSnap, .int .i64 p0.fRaft.fHard.fLog.fBase, .int .i64 p0.fRaft.fHard.fLog.fBaseTerm, .slice Ap0_1 p0.fRaft.fHard.fLog.fEntries.length cp0_1, .slice none 0 0, .slice Ap0_3 p0.fRaft.fMarks.length cp0_3] 84 (0, 0)) :: H, (101454, ⟨.slice A173 x159.length c174, 25, 11, x159.length, (x159.zip ps176).flatMap GNote.encP⟩) :: R, φ178⟩ (fun _ h => h) <| c_ret <| d_ret_then ?_
       replace hm := Option.some.inj hm
       subst hm
       refine d_sta _ (fun W h => ok_frontR (t := 101454) (t' := 2004) h rfl) ?_
       refine d_retC (A161, c162, A164, c165, A167, c168, A170, c171, A173, c174, ps176) Try.results38 ?_ ⟨hc162, hc165, hc168, hc171, ⟨hc174.1, hc174.2⟩⟩ (fun W h => (((h.dropH (t := 100060) rfl).dropH (t := 100040) rfl).dropH (t := 100030) rfl).phi (fun W hφ => ⟨(q178 _ hφ), (fun W h => f163 W h) W hφ, (fun W h => f166 W h) W hφ, (fun W h => f169 W h) W hφ, (fun W h => f172 W h) W hφ, (fun W h => (f177 W h)) W hφ⟩)) (.inr rfl)
       refine res_agg (tag := 100060) rfl rfl Try.isAgg84 Try.sizeOf84 <| res_tmp <| res_nil ?_
       exact rfl
      ·
       replace hm := ite_f hm (of_decide_eq_false h157)
       refine c_skip <| d_then <| c_seq <| c_region <| g_v rfl (r_loadA (tag := 100030) rfl rfl Try.isAgg84 Try.sizeOf84 rfl rfl) <| g_v rfl (r_loadA (tag := 100040) rfl rfl Try.isAgg25 Try.sizeOf25 rfl rfl) ?_
       replace hm := bnd hm
       obtain ⟨⟨x180, x181⟩, hx182, hm⟩ := hm
       refine g_cn ⟨w0, M, _, _, φ⟩ (fun _ h => h) Try.call62 rfl rfl (c_raft_state_appended (⟨(⟨p0.fRaft.fMe, 0, w64 (p1.fFrom + 1), p0.fRaft.fCommit, p2, p0.fRaft.fHard, ([] : List Int), p0.fRaft.fMarks⟩ : GRaft)⟩ : Graft_state) Ap0_0 cp0_0 hcp0_0 (fun W h => fp0_0 W h) Ap0_1 cp0_1 hcp0_1 (fun W h => fp0_1 W h) none 0 (Nat.le_refl 0) (fun W _ => Cl.nil _ _) Ap0_3 cp0_3 hcp0_3 (fun W h => fp0_3 W h) p1 Ap1_0 cp1_0 hcp1_0 (fun W h => fp1_0 W h) Ap1_1 cp1_1 hcp1_1 (fun W hS => fp1_1 W hS.now) _ hx182) (fun ⟨A183, c184, A186, c187, A189, c190, A192, c193, A195, c196, ps198⟩ ⟨hc184, hc187, hc190, hc193, hc196⟩ => ?_)
       refine g_sta _ (fun W h => (ok_frontR (t := 2004) (t' := 101504) h rfl)) ?_
       refine g_abs (fun φ200 q200' => ?_)
       have q200 : ∀ W, φ200 W → φ W := fun W h => (q200' W h).1
       have f185 := fun (W : World) (h : φ200 W) => (q200' W h).2.1
       have f188 := fun (W : World) (h : φ200 W) => (q200' W h).2.2.1
       have f191 := fun (W : World) (h : φ200 W) => (q200' W h).2.2.2.1
       have f194 := fun (W : World) (h : φ200 W) => (q200' W h).2.2.2.2.1
       have f199 := fun (W : World) (h : φ200 W) => (q200' W h).2.2.2.2.2
       refine g_v rfl (r_extract rfl rfl) <| g_v rfl (r_extract rfl rfl) <| g_storeL (tag := 100060) rfl rfl rfl rfl Try.sizeOf84 rfl rfl <| g_v rfl r_assign <| g_nil <| d_then ?_
       refine c_flat [(6, .pointer (some ⟨g3, 0, none⟩)), (7, .slice A195 x181.length c196)] ⟨rfl, rfl, trivial⟩ (fun u => ?_)
       refine c_sta ⟨w0, M, (100060, g3, .cells #[.int .i64 x180.fRaft.fMe, .int .i64 x180.fRaft.fRole, .int .i64 x180.fRaft.fLeader, .int .i64 x180.fRaft.fCommit, .int .i64 x180.fRaft.fLeft, .int .i64 x180.fRaft.fHard.fTerm, .int .i64 x180.fRaft.fHard.fVote, .slice A183 x180.fRaft.fHard.fVoters.length c184, .string x180.fRaft.fHard.fSnap, .int .i64 x180.fRaft.fHard.fLog.fBase, .int .i64 x180.fRaft.fHard.fLog.fBaseTerm, .slice A186 x180.fRaft.fHard.fLog.fEntries.length c187, .slice A189 x180.fRaft.fVotes.length c190, .slice A192 x180.fRaft.fMarks.length c193] 84 (0, 0)) :: (100040, g2, .cells #[.int .i64 p1.fKind, .int .i64 p1.fFrom, .int .i64 p1.fTo, .int .i64 p1.fTerm, .int .i64 p1.fIndex, .int .i64 p1.fLogTerm, .int .i64 p1.fCommit, .bool p1.fGood, .slice Ap1_0 p1.fEntries.length cp1_0, .slice Ap1_1 p1.fVoters.length cp1_1, .string p1.fSnap] 25 (0, 0)) :: (100030, g1, .cells #[.int .i64 p0.fRaft.fMe, .int .i64 0, .int .i64 (w64 (p1.fFrom + 1)), .int .i64 p0.fRaft.fCommit, .int .i64 p2, .int .i64 p0.fRaft.fHard.fTerm, .int .i64 p0.fRaft.fHard.fVote, .slice Ap0_0 p0.fRaft.fHard.fVoters.length cp0_0, .string p0.fRaft.fHard.fSnap, .int .i64 p0.fRaft.fHard.fLog.fBase, .int .i64 p0.fRaft.fHard.fLog.fBaseTerm, .slice Ap0_1 p0.fRaft.fHard.fLog.fEntries.length cp0_1, .slice none 0 0, .slice Ap0_3 p0.fRaft.fMarks.length cp0_3] 84 (0, 0)) :: H, (101504, ⟨.slice A195 x181.length c196, 25, 11, x181.length, (x181.zip ps198).flatMap GNote.encP⟩) :: R, φ200⟩ (fun _ h => h) <| c_ret ?_
       replace hm := Option.some.inj hm
       subst hm
       refine d_sta _ (fun W h => ok_frontR (t := 101504) (t' := 2004) h rfl) ?_
       refine d_retC (A183, c184, A186, c187, A189, c190, A192, c193, A195, c196, ps198) Try.results38 ?_ ⟨hc184, hc187, hc190, hc193, ⟨hc196.1, hc196.2⟩⟩ (fun W h => (((h.dropH (t := 100060) rfl).dropH (t := 100040) rfl).dropH (t := 100030) rfl).phi (fun W hφ => ⟨(q200 _ hφ), (fun W h => f185 W h) W hφ, (fun W h => f188 W h) W hφ, (fun W h => f191 W h) W hφ, (fun W h => f194 W h) W hφ, (fun W h => (f199 W h)) W hφ⟩)) (.inr rfl)
       refine res_agg (tag := 100060) rfl rfl Try.isAgg84 Try.sizeOf84 <| res_tmp <| res_nil ?_
       exact rfl
noncomputable def m_raft_Receive_j1 (p1 : GNote) (p2 : Int) (i25 : Int) (i26 : Int) (i27 : Int) (i28 : Int) (i29 : Int) (i30 : Int) (i31 : Int) (l32 : List Int) (s36 : ByteArray) (i37 : Int) (i38 : Int) (l39 : List GEntry) (l43 : List Int) (l47 : List GMark) : Option (GRaft × (List GNote)) :=
  (m_raft_state_receive (⟨(⟨i25, i26, i27, i28, i29, (⟨i30, i31, l32, s36, (⟨i37, i38, l39⟩ : GLog)⟩ : GHard), l43, l47⟩ : GRaft)⟩ : Graft_state) p1 (max p2 1)).bind fun (z73 : Graft_state × (List GNote)) =>
  some (z73.1.fRaft, z73.2)
noncomputable def m_raft_Receive (p0 : GRaft) (p1 : GNote) (p2 : Int) : Option (GRaft × (List GNote)) :=
  (m_raft_Check p1).bind fun x4 =>
  if x4 ≠ 0 then
    some (p0, ([] : List GNote))
  else
    if p1.fTo ≠ p0.fMe then
      some (p0, ([] : List GNote))
    else
      if p0.fHard.fTerm < p1.fTerm then
        (m_raft_state_down (⟨p0⟩ : Graft_state) p1.fTerm).bind fun x76 =>
        m_raft_Receive_j1 p1 p2 x76.fRaft.fMe x76.fRaft.fRole x76.fRaft.fLeader x76.fRaft.fCommit x76.fRaft.fLeft x76.fRaft.fHard.fTerm x76.fRaft.fHard.fVote x76.fRaft.fHard.fVoters x76.fRaft.fHard.fSnap x76.fRaft.fHard.fLog.fBase x76.fRaft.fHard.fLog.fBaseTerm x76.fRaft.fHard.fLog.fEntries x76.fRaft.fVotes x76.fRaft.fMarks
      else
        m_raft_Receive_j1 p1 p2 p0.fMe p0.fRole p0.fLeader p0.fCommit p0.fLeft p0.fHard.fTerm p0.fHard.fVote p0.fHard.fVoters p0.fHard.fSnap p0.fHard.fLog.fBase p0.fHard.fLog.fBaseTerm p0.fHard.fLog.fEntries p0.fVotes p0.fMarks
theorem c_raft_Receive {w0 : World} {M : Nat → Prop} {H : List (Nat × Nat × Obj)} {R : List (Nat × Row)} {φ : World → Prop} (p0 : GRaft) (Ap0_0 : Option Addr) (cp0_0 : Nat) (hcp0_0 : p0.fHard.fVoters.length ≤ cp0_0) (fp0_0 : ∀ W, φ W → Cl W Ap0_0 (p0.fHard.fVoters.flatMap (fun x : Int => [Value.int .i64 x]))) (Ap0_1 : Option Addr) (cp0_1 : Nat) (hcp0_1 : p0.fHard.fLog.fEntries.length ≤ cp0_1) (fp0_1 : ∀ W, φ W → Cl W Ap0_1 (p0.fHard.fLog.fEntries.flatMap GEntry.enc)) (Ap0_2 : Option Addr) (cp0_2 : Nat) (hcp0_2 : p0.fVotes.length ≤ cp0_2) (fp0_2 : ∀ W, φ W → Cl W Ap0_2 (p0.fVotes.flatMap (fun x : Int => [Value.int .i64 x]))) (Ap0_3 : Option Addr) (cp0_3 : Nat) (hcp0_3 : p0.fMarks.length ≤ cp0_3) (fp0_3 : ∀ W, φ W → Cl W Ap0_3 (p0.fMarks.flatMap GMark.enc)) (p1 : GNote) (Ap1_0 : Option Addr) (cp1_0 : Nat) (hcp1_0 : p1.fEntries.length ≤ cp1_0) (fp1_0 : ∀ W, φ W → Cl W Ap1_0 (p1.fEntries.flatMap GEntry.enc)) (Ap1_1 : Option Addr) (cp1_1 : Nat) (hcp1_1 : p1.fVoters.length ≤ cp1_1) (fp1_1 : ∀ W, φ W → Cl W Ap1_1 (p1.fVoters.flatMap (fun x : Int => [Value.int .i64 x]))) (p2 : Int) (r : GRaft × (List GNote)) (hm : m_raft_Receive p0 p1 p2 = some r) :
    Cn Try.prog 17 #[.agg #[.int .i64 p0.fMe, .int .i64 p0.fRole, .int .i64 p0.fLeader, .int .i64 p0.fCommit, .int .i64 p0.fLeft, .int .i64 p0.fHard.fTerm, .int .i64 p0.fHard.fVote, .slice Ap0_0 p0.fHard.fVoters.length cp0_0, .string p0.fHard.fSnap, .int .i64 p0.fHard.fLog.fBase, .int .i64 p0.fHard.fLog.fBaseTerm, .slice Ap0_1 p0.fHard.fLog.fEntries.length cp0_1, .slice Ap0_2 p0.fVotes.length cp0_2, .slice Ap0_3 p0.fMarks.length cp0_3], .agg #[.int .i64 p1.fKind, .int .i64 p1.fFrom, .int .i64 p1.fTo, .int .i64 p1.fTerm, .int .i64 p1.fIndex, .int .i64 p1.fLogTerm, .int .i64 p1.fCommit, .bool p1.fGood, .slice Ap1_0 p1.fEntries.length cp1_0, .slice Ap1_1 p1.fVoters.length cp1_1, .string p1.fSnap], .int .i64 p2] ⟨w0, M, H, R, φ⟩ (fun x : Option Addr × Nat × Option Addr × Nat × Option Addr × Nat × Option Addr × Nat × Option Addr × Nat × List GNoteP => .tuple #[.agg #[.int .i64 r.1.fMe, .int .i64 r.1.fRole, .int .i64 r.1.fLeader, .int .i64 r.1.fCommit, .int .i64 r.1.fLeft, .int .i64 r.1.fHard.fTerm, .int .i64 r.1.fHard.fVote, .slice x.1 r.1.fHard.fVoters.length x.2.1, .string r.1.fHard.fSnap, .int .i64 r.1.fHard.fLog.fBase, .int .i64 r.1.fHard.fLog.fBaseTerm, .slice x.2.2.1 r.1.fHard.fLog.fEntries.length x.2.2.2.1, .slice x.2.2.2.2.1 r.1.fVotes.length x.2.2.2.2.2.1, .slice x.2.2.2.2.2.2.1 r.1.fMarks.length x.2.2.2.2.2.2.2.1], .slice x.2.2.2.2.2.2.2.2.1 r.2.length x.2.2.2.2.2.2.2.2.2.1]) (fun x => r.1.fHard.fVoters.length ≤ x.2.1 ∧ r.1.fHard.fLog.fEntries.length ≤ x.2.2.2.1 ∧ r.1.fVotes.length ≤ x.2.2.2.2.2.1 ∧ r.1.fMarks.length ≤ x.2.2.2.2.2.2.2.1 ∧ (DOk GNote.capP r.2 x.2.2.2.2.2.2.2.2.2.2 ∧ r.2.length ≤ x.2.2.2.2.2.2.2.2.2.1)) (fun x => ⟨w0, M, H, (2004, ⟨.slice x.2.2.2.2.2.2.2.2.1 r.2.length x.2.2.2.2.2.2.2.2.2.1, 25, 11, r.2.length, (r.2.zip x.2.2.2.2.2.2.2.2.2.2).flatMap GNote.encP⟩) :: R, fun W => φ W ∧ Cl W x.1 (r.1.fHard.fVoters.flatMap (fun x : Int => [Value.int .i64 x])) ∧ Cl W x.2.2.1 (r.1.fHard.fLog.fEntries.flatMap GEntry.enc) ∧ Cl W x.2.2.2.2.1 (r.1.fVotes.flatMap (fun x : Int => [Value.int .i64 x])) ∧ Cl W x.2.2.2.2.2.2.1 (r.1.fMarks.flatMap GMark.enc) ∧ DOwn GNote.ownP r.2 x.2.2.2.2.2.2.2.2.2.2 W⟩) := by
 unfold m_raft_Receive at hm
 refine cn_intro (fn := Try.f17) (N := 46) Try.func17 rfl Try.ntmps17 rfl <| c_seq <| c_region ?_
 refine g_e rfl (e_box 100030 rfl) (fun g1 _ => ?_)
 refine g_e rfl (e_box 100040 rfl) (fun g2 _ => ?_)
 refine g_e rfl (e_alloc 100060 Try.zeroValue43) (fun g3 _ => ?_)
 refine g_v rfl r_assign <| g_nil <| d_then <| c_seq <| c_seq <| c_region <| g_v rfl (r_loadA (tag := 100040) rfl rfl Try.isAgg25 Try.sizeOf25 rfl rfl) ?_
 replace hm := bnd hm
 obtain ⟨x4, hx5, hm⟩ := hm
 refine g_cn ⟨w0, M, _, _, φ⟩ (fun _ h => h) Try.call11 rfl rfl (c_raft_Check p1 Ap1_0 cp1_0 hcp1_0 (fun W hS => fp1_0 W hS.now) Ap1_1 cp1_1 hcp1_1 (fun W hS => fp1_1 W hS.now) _ hx5) (fun _ _ => ?_)
 refine g_v rfl (r_neq rfl rfl) <| g_v rfl r_move ?_
 refine g_if rfl rfl rfl rfl rfl (fun h6 => ?_) (fun h6 => ?_)
 ·
  replace hm := ite_f hm (of_decide_eq_false h6)
  refine g_v rfl (r_field (n := 2) Try.underlying25 rfl Try.sizeOf3 rfl rfl) <| g_do rfl rfl rfl rfl rfl h6 <| g_v rfl (r_load (tag := 100040) rfl rfl rfl Try.isAgg3) <| g_do rfl rfl rfl rfl rfl h6 <| g_v rfl (r_field (n := 0) Try.underlying43 rfl Try.sizeOf3 rfl rfl) <| g_do rfl rfl rfl rfl rfl h6 <| g_v rfl (r_load (tag := 100030) rfl rfl rfl Try.isAgg3) <| g_do rfl rfl rfl rfl rfl h6 <| g_v rfl (r_neq rfl rfl) <| g_v rfl (r_pick0 rfl h6) ?_
  refine g_nil <| d_then ?_
  refine c_flat [(2, .int .i64 p2), (3, .pointer (some ⟨g1, 0, none⟩)), (4, .pointer (some ⟨g2, 0, none⟩)), (6, .pointer (some ⟨g3, 0, none⟩)), (20, .bool (decide (p1.fTo ≠ p0.fMe)))] ⟨rfl, rfl, rfl, rfl, rfl, trivial⟩ (fun u => ?_)
  refine c_sta ⟨w0, M, (100060, g3, .cells #[.int .i64 0, .int .i64 0, .int .i64 0, .int .i64 0, .int .i64 0, .int .i64 0, .int .i64 0, .slice none 0 0, .string (⟨#[]⟩ : ByteArray), .int .i64 0, .int .i64 0, .slice none 0 0, .slice none 0 0, .slice none 0 0] 43 (0, 0)) :: (100040, g2, .cells #[.int .i64 p1.fKind, .int .i64 p1.fFrom, .int .i64 p1.fTo, .int .i64 p1.fTerm, .int .i64 p1.fIndex, .int .i64 p1.fLogTerm, .int .i64 p1.fCommit, .bool p1.fGood, .slice Ap1_0 p1.fEntries.length cp1_0, .slice Ap1_1 p1.fVoters.length cp1_1, .string p1.fSnap] 25 (0, 0)) :: (100030, g1, .cells #[.int .i64 p0.fMe, .int .i64 p0.fRole, .int .i64 p0.fLeader, .int .i64 p0.fCommit, .int .i64 p0.fLeft, .int .i64 p0.fHard.fTerm, .int .i64 p0.fHard.fVote, .slice Ap0_0 p0.fHard.fVoters.length cp0_0, .string p0.fHard.fSnap, .int .i64 p0.fHard.fLog.fBase, .int .i64 p0.fHard.fLog.fBaseTerm, .slice Ap0_1 p0.fHard.fLog.fEntries.length cp0_1, .slice Ap0_2 p0.fVotes.length cp0_2, .slice Ap0_3 p0.fMarks.length cp0_3] 43 (0, 0)) :: H, R, φ⟩ (fun _ h => h) ?_
  refine c_cond rfl (fun h7 => ?_) (fun h7 => ?_)
  ·
   replace hm := ite_t hm (of_decide_eq_true h7)
   refine c_seq <| c_region <| g_v rfl (r_loadA (tag := 100030) rfl rfl Try.isAgg43 Try.sizeOf43 rfl rfl) <| g_storeL (tag := 100060) rfl rfl rfl rfl Try.sizeOf43 rfl rfl <| g_v rfl r_assign <| g_nil <| d_then <| c_ret <| d_ret_then ?_
   replace hm := Option.some.inj hm
   subst hm
   refine d_sta _ (fun W h => nilR h 11 25 11) <| d_sta _ (fun W h => ok_frontR (t := 11) (t' := 2004) h rfl) ?_
   refine d_retC (Ap0_0, cp0_0, Ap0_1, cp0_1, Ap0_2, cp0_2, Ap0_3, cp0_3, none, 0, ([] : List GNoteP)) Try.results17 ?_ ⟨hcp0_0, hcp0_1, hcp0_2, hcp0_3, ⟨DOk.nil, (Nat.le_refl 0)⟩⟩ (fun W h => (((h.dropH (t := 100060) rfl).dropH (t := 100040) rfl).dropH (t := 100030) rfl).phi (fun W hφ => ⟨hφ, (fun W h => fp0_0 W h) W hφ, (fun W h => fp0_1 W h) W hφ, (fun W h => fp0_2 W h) W hφ, (fun W h => fp0_3 W h) W hφ, (fun W h => DOwn.nil) W hφ⟩)) (.inr rfl)
   refine res_agg (tag := 100060) rfl rfl Try.isAgg43 Try.sizeOf43 <| res_tmp <| res_nil ?_
   exact rfl
  ·
   replace hm := ite_f hm (of_decide_eq_false h7)
   refine c_skip <| d_then <| c_seq <| c_region <| g_v rfl (r_loadA (tag := 100030) rfl rfl Try.isAgg43 Try.sizeOf43 rfl rfl) <| g_v rfl (r_build _ rfl (bld84_3 _ _ _ _ _ _ _ _ _ _ _ _ _ _ _ _ _ _ _ _ _ _)) ?_
   refine g_e rfl (e_alloc 100080 Try.zeroValue84) (fun g8 _ => ?_)
   refine g_storeL (tag := 100080) rfl rfl rfl rfl Try.sizeOf84 rfl rfl <| g_nil <| d_then <| c_seq ?_
   refine c_cut (ι := Int × Int × Int × Int × Int × Int × Int × (List Int) × ByteArray × Int × Int × (List GEntry) × (List Int) × (List GMark) × Option Addr × Nat × Option Addr × Nat × Option Addr × Nat × Option Addr × Nat) [2, 4, 6, 8] (fun ⟨i25, i26, i27, i28, i29, i30, i31, l32, s36, i37, i38, l39, l43, l47, A33, c34, A40, c41, A44, c45, A48, c49⟩ => []) (fun ⟨i25, i26, i27, i28, i29, i30, i31, l32, s36, i37, i38, l39, l43, l47, A33, c34, A40, c41, A44, c45, A48, c49⟩ => ⟨w0, M, (100080, g8, .cells #[.int .i64 i25, .int .i64 i26, .int .i64 i27, .int .i64 i28, .int .i64 i29, .int .i64 i30, .int .i64 i31, .slice A33 l32.length c34, .string s36, .int .i64 i37, .int .i64 i38, .slice A40 l39.length c41, .slice A44 l43.length c45, .slice A48 l47.length c49] 84 (0, 0)) :: (100060, g3, .cells #[.int .i64 0, .int .i64 0, .int .i64 0, .int .i64 0, .int .i64 0, .int .i64 0, .int .i64 0, .slice none 0 0, .string (⟨#[]⟩ : ByteArray), .int .i64 0, .int .i64 0, .slice none 0 0, .slice none 0 0, .slice none 0 0] 43 (0, 0)) :: (100040, g2, .cells #[.int .i64 p1.fKind, .int .i64 p1.fFrom, .int .i64 p1.fTo, .int .i64 p1.fTerm, .int .i64 p1.fIndex, .int .i64 p1.fLogTerm, .int .i64 p1.fCommit, .bool p1.fGood, .slice Ap1_0 p1.fEntries.length cp1_0, .slice Ap1_1 p1.fVoters.length cp1_1, .string p1.fSnap] 25 (0, 0)) :: H, R, fun W => φ W ∧ Cl W A33 (l32.flatMap (fun x : Int => [Value.int .i64 x])) ∧ Cl W A40 (l39.flatMap GEntry.enc) ∧ Cl W A44 (l43.flatMap (fun x : Int => [Value.int .i64 x])) ∧ Cl W A48 (l47.flatMap GMark.enc)⟩) (fun ⟨i25, i26, i27, i28, i29, i30, i31, l32, s36, i37, i38, l39, l43, l47, A33, c34, A40, c41, A44, c45, A48, c49⟩ => m_raft_Receive_j1 p1 p2 i25 i26 i27 i28 i29 i30 i31 l32 s36 i37 i38 l39 l43 l47 = some r ∧ l32.length ≤ c34 ∧ l39.length ≤ c41 ∧ l43.length ≤ c45 ∧ l47.length ≤ c49) ?_ (fun ⟨i25, i26, i27, i28, i29, i30, i31, l32, s36, i37, i38, l39, l43, l47, A33, c34, A40, c41, A44, c45, A48, c49⟩ u ⟨hm, hc34, hc41, hc45, hc49⟩ => ?_)
   ·
    refine c_seq <| c_region <| g_v rfl (r_field (n := 3) Try.underlying25 rfl Try.sizeOf3 rfl rfl) <| g_v rfl (r_load (tag := 100040) rfl rfl rfl Try.isAgg3) <| g_v rfl (r_field (n := 0) Try.underlying84 rfl Try.sizeOf43 rfl rfl) <| g_v rfl (r_field (n := 5) Try.underlying43 rfl Try.sizeOf40 rfl rfl) <| g_v rfl (r_field (n := 5) Try.underlying40 rfl Try.sizeOf3 rfl rfl) <| g_v rfl (r_load (tag := 100080) rfl rfl rfl Try.isAgg3) <| g_v rfl (r_gtr rfl rfl) <| g_nil ?_
    refine d_then ?_
    refine c_flat [(2, .int .i64 p2), (4, .pointer (some ⟨g2, 0, none⟩)), (6, .pointer (some ⟨g3, 0, none⟩)), (8, .pointer (some ⟨g8, 0, none⟩)), (30, .bool (decide (p0.fHard.fTerm < p1.fTerm)))] ⟨rfl, rfl, rfl, rfl, rfl, trivial⟩ (fun u => ?_)
    refine c_sta ⟨w0, M, (100080, g8, .cells #[.int .i64 p0.fMe, .int .i64 p0.fRole, .int .i64 p0.fLeader, .int .i64 p0.fCommit, .int .i64 p0.fLeft, .int .i64 p0.fHard.fTerm, .int .i64 p0.fHard.fVote, .slice Ap0_0 p0.fHard.fVoters.length cp0_0, .string p0.fHard.fSnap, .int .i64 p0.fHard.fLog.fBase, .int .i64 p0.fHard.fLog.fBaseTerm, .slice Ap0_1 p0.fHard.fLog.fEntries.length cp0_1, .slice Ap0_2 p0.fVotes.length cp0_2, .slice Ap0_3 p0.fMarks.length cp0_3] 84 (0, 0)) :: (100060, g3, .cells #[.int .i64 0, .int .i64 0, .int .i64 0, .int .i64 0, .int .i64 0, .int .i64 0, .int .i64 0, .slice none 0 0, .string (⟨#[]⟩ : ByteArray), .int .i64 0, .int .i64 0, .slice none 0 0, .slice none 0 0, .slice none 0 0] 43 (0, 0)) :: (100040, g2, .cells #[.int .i64 p1.fKind, .int .i64 p1.fFrom, .int .i64 p1.fTo, .int .i64 p1.fTerm, .int .i64 p1.fIndex, .int .i64 p1.fLogTerm, .int .i64 p1.fCommit, .bool p1.fGood, .slice Ap1_0 p1.fEntries.length cp1_0, .slice Ap1_1 p1.fVoters.length cp1_1, .string p1.fSnap] 25 (0, 0)) :: (100030, g1, .cells #[.int .i64 p0.fMe, .int .i64 p0.fRole, .int .i64 p0.fLeader, .int .i64 p0.fCommit, .int .i64 p0.fLeft, .int .i64 p0.fHard.fTerm, .int .i64 p0.fHard.fVote, .slice Ap0_0 p0.fHard.fVoters.length cp0_0, .string p0.fHard.fSnap, .int .i64 p0.fHard.fLog.fBase, .int .i64 p0.fHard.fLog.fBaseTerm, .slice Ap0_1 p0.fHard.fLog.fEntries.length cp0_1, .slice Ap0_2 p0.fVotes.length cp0_2, .slice Ap0_3 p0.fMarks.length cp0_3] 43 (0, 0)) :: H, R, φ⟩ (fun _ h => h) ?_
    refine c_cond rfl (fun h75 => ?_) (fun h75 => ?_)
    ·
     replace hm := ite_t hm (of_decide_eq_true h75)
     refine c_region <| g_v rfl (r_loadA (tag := 100080) rfl rfl Try.isAgg84 Try.sizeOf84 rfl rfl) <| g_v rfl (r_field (n := 3) Try.underlying25 rfl Try.sizeOf3 rfl rfl) <| g_v rfl (r_load (tag := 100040) rfl rfl rfl Try.isAgg3) ?_
     replace hm := bnd hm
     obtain ⟨x76, hx77, hm⟩ := hm
     refine g_cn ⟨w0, M, _, _, φ⟩ (fun _ h => h) Try.call37 rfl rfl (c_raft_state_down (⟨p0⟩ : Graft_state) Ap0_0 cp0_0 hcp0_0 (fun W h => fp0_0 W h) Ap0_1 cp0_1 hcp0_1 (fun W h => fp0_1 W h) Ap0_2 cp0_2 hcp0_2 (fun W hS => fp0_2 W hS.now) Ap0_3 cp0_3 hcp0_3 (fun W hS => fp0_3 W hS.now) p1.fTerm _ hx77) (fun ⟨A78, c79, A81, c82, A84, c85, A87, c88⟩ ⟨hc79, hc82, hc85, hc88⟩ => ?_)
     refine g_abs (fun φ90 q90' => ?_)
     have q90 : ∀ W, φ90 W → φ W := fun W h => (q90' W h).1
     have f80 := fun (W : World) (h : φ90 W) => (q90' W h).2.1
     have f83 := fun (W : World) (h : φ90 W) => (q90' W h).2.2.1
     have f86 := fun (W : World) (h : φ90 W) => (q90' W h).2.2.2.1
     have f89 := fun (W : World) (h : φ90 W) => (q90' W h).2.2.2.2
     refine g_storeL (tag := 100080) rfl rfl rfl rfl Try.sizeOf84 rfl rfl <| g_nil ?_
     exact d_round (x76.fRaft.fMe, x76.fRaft.fRole, x76.fRaft.fLeader, x76.fRaft.fCommit, x76.fRaft.fLeft, x76.fRaft.fHard.fTerm, x76.fRaft.fHard.fVote, x76.fRaft.fHard.fVoters, x76.fRaft.fHard.fSnap, x76.fRaft.fHard.fLog.fBase, x76.fRaft.fHard.fLog.fBaseTerm, x76.fRaft.fHard.fLog.fEntries, x76.fRaft.fVotes, x76.fRaft.fMarks, A78, c79, A81, c82, A84, c85, A87, c88) ⟨hm, hc79, hc82, hc85, hc88⟩ Nat.zero_lt_one ⟨rfl, rfl, rfl, rfl, trivial⟩ (fun W h => (h.dropH (t := 100030) rfl).phi (fun W hφ => ⟨(q90 _ hφ), (fun W h => f80 W h) W hφ, (fun W h => f83 W h) W hφ, (fun W h => f86 W h) W hφ, (fun W h => f89 W h) W hφ⟩))
    ·
     replace hm := ite_f hm (of_decide_eq_false h75)
     refine c_skip ?_
     exact d_round (p0.fMe, p0.fRole, p0.fLeader, p0.fCommit, p0.fLeft, p0.fHard.fTerm, p0.fHard.fVote, p0.fHard.fVoters, p0.fHard.fSnap, p0.fHard.fLog.fBase, p0.fHard.fLog.fBaseTerm, p0.fHard.fLog.fEntries, p0.fVotes, p0.fMarks, Ap0_0, cp0_0, Ap0_1, cp0_1, Ap0_2, cp0_2, Ap0_3, cp0_3) ⟨hm, hcp0_0, hcp0_1, hcp0_2, hcp0_3⟩ Nat.zero_lt_one ⟨rfl, rfl, rfl, rfl, trivial⟩ (fun W h => (h.dropH (t := 100030) rfl).phi (fun W hφ => ⟨hφ, (fun W h => fp0_0 W h) W hφ, (fun W h => fp0_1 W h) W hφ, (fun W h => fp0_2 W h) W hφ, (fun W h => fp0_3 W h) W hφ⟩))
   ·
    unfold m_raft_Receive_j1 at hm
    refine d_abs (fun φ51 q51' => ?_)
    have q51 : ∀ W, φ51 W → φ W := fun W h => (q51' W h).1
    have f35 := fun (W : World) (h : φ51 W) => (q51' W h).2.1
    have f42 := fun (W : World) (h : φ51 W) => (q51' W h).2.2.1
    have f46 := fun (W : World) (h : φ51 W) => (q51' W h).2.2.2.1
    have f50 := fun (W : World) (h : φ51 W) => (q51' W h).2.2.2.2
    refine d_flat [(2, .int .i64 p2), (4, .pointer (some ⟨g2, 0, none⟩)), (6, .pointer (some ⟨g3, 0, none⟩)), (8, .pointer (some ⟨g8, 0, none⟩))] ⟨rfl, rfl, rfl, rfl, trivial⟩ (fun u => ?_)
    refine d_sta ⟨w0, M, (100080, g8, .cells #[.int .i64 i25, .int .i64 i26, .int .i64 i27, .int .i64 i28, .int .i64 i29, .int .i64 i30, .int .i64 i31, .slice A33 l32.length c34, .string s36, .int .i64 i37, .int .i64 i38, .slice A40 l39.length c41, .slice A44 l43.length c45, .slice A48 l47.length c49] 84 (0, 0)) :: (100060, g3, .cells #[.int .i64 0, .int .i64 0, .int .i64 0, .int .i64 0, .int .i64 0, .int .i64 0, .int .i64 0, .slice none 0 0, .string (⟨#[]⟩ : ByteArray), .int .i64 0, .int .i64 0, .slice none 0 0, .slice none 0 0, .slice none 0 0] 43 (0, 0)) :: (100040, g2, .cells #[.int .i64 p1.fKind, .int .i64 p1.fFrom, .int .i64 p1.fTo, .int .i64 p1.fTerm, .int .i64 p1.fIndex, .int .i64 p1.fLogTerm, .int .i64 p1.fCommit, .bool p1.fGood, .slice Ap1_0 p1.fEntries.length cp1_0, .slice Ap1_1 p1.fVoters.length cp1_1, .string p1.fSnap] 25 (0, 0)) :: H, R, φ51⟩ (fun _ h => h) <| d_then <| c_seq <| c_region <| g_v rfl (r_loadA (tag := 100080) rfl rfl Try.isAgg84 Try.sizeOf84 rfl rfl) <| g_v rfl (r_loadA (tag := 100040) rfl rfl Try.isAgg25 Try.sizeOf25 rfl rfl) <| g_v rfl r_move <| g_v rfl (r_max rfl rfl) ?_
    replace hm := bnd hm
    obtain ⟨⟨x52, x53⟩, hx54, hm⟩ := hm
    refine g_cn ⟨w0, M, _, _, φ51⟩ (fun _ h => h) Try.call38 rfl rfl (c_raft_state_receive (⟨(⟨i25, i26, i27, i28, i29, (⟨i30, i31, l32, s36, (⟨i37, i38, l39⟩ : GLog)⟩ : GHard), l43, l47⟩ : GRaft)⟩ : Graft_state) A33 c34 hc34 (fun W h => f35 W h) A40 c41 hc41 (fun W h => f42 W h) A44 c45 hc45 (fun W h => f46 W h) A48 c49 hc49 (fun W h => f50 W h) p1 Ap1_0 cp1_0 hcp1_0 (fun W h => fp1_0 W (q51 _ h)) Ap1_1 cp1_1 hcp1_1 (fun W h => fp1_1 W (q51 _ h)) (max p2 1) _ hx54) (fun ⟨A55, c56, A58, c59, A61, c62, A64, c65, A67, c68, ps70⟩ ⟨hc56, hc59, hc62, hc65, hc68⟩ => ?_)
    refine g_sta _ (fun W h => (ok_frontR (t := 2004) (t' := 100404) h rfl)) ?_
    refine g_abs (fun φ72 q72' => ?_)
    have q72 : ∀ W, φ72 W → φ51 W := fun W h => (q72' W h).1
    have f57 := fun (W : World) (h : φ72 W) => (q72' W h).2.1
    have f60 := fun (W : World) (h : φ72 W) => (q72' W h).2.2.1
    have f63 := fun (W : World) (h : φ72 W) => (q72' W h).2.2.2.1
    have f66 := fun (W : World) (h : φ72 W) => (q72' W h).2.2.2.2.1
    have f71 := fun (W : World) (h : φ72 W) => (q72' W h).2.2.2.2.2
    refine g_v rfl r_move <| g_v rfl (r_extract rfl rfl) <| g_v rfl (r_extract rfl rfl) ?_
    refine g_e rfl (e_alloc 100090 Try.zeroValue84) (fun g74 _ => ?_)
    refine g_storeL (tag := 100090) rfl rfl rfl rfl Try.sizeOf84 rfl rfl <| g_v rfl r_assign <| g_nil <| d_then ?_
    refine c_flat [(6, .pointer (some ⟨g3, 0, none⟩)), (9, .pointer (some ⟨g74, 0, none⟩)), (10, .slice A67 x53.length c68)] ⟨rfl, rfl, rfl, trivial⟩ (fun u => ?_)
    refine c_sta ⟨w0, M, (100090, g74, .cells #[.int .i64 x52.fRaft.fMe, .int .i64 x52.fRaft.fRole, .int .i64 x52.fRaft.fLeader, .int .i64 x52.fRaft.fCommit, .int .i64 x52.fRaft.fLeft, .int .i64 x52.fRaft.fHard.fTerm, .int .i64 x52.fRaft.fHard.fVote, .slice A55 x52.fRaft.fHard.fVoters.length c56, .string x52.fRaft.fHard.fSnap, .int .i64 x52.fRaft.fHard.fLog.fBase, .int .i64 x52.fRaft.fHard.fLog.fBaseTerm, .slice A58 x52.fRaft.fHard.fLog.fEntries.length c59, .slice A61 x52.fRaft.fVotes.length c62, .slice A64 x52.fRaft.fMarks.length c65] 84 (0, 0)) :: (100080, g8, .cells #[.int .i64 i25, .int .i64 i26, .int .i64 i27, .int .i64 i28, .int .i64 i29, .int .i64 i30, .int .i64 i31, .slice A33 l32.length c34, .string s36, .int .i64 i37, .int .i64 i38, .slice A40 l39.length c41, .slice A44 l43.length c45, .slice A48 l47.length c49] 84 (0, 0)) :: (100060, g3, .cells #[.int .i64 0, .int .i64 0, .int .i64 0, .int .i64 0, .int .i64 0, .int .i64 0, .int .i64 0, .slice none 0 0, .string (⟨#[]⟩ : ByteArray), .int .i64 0, .int .i64 0, .slice none 0 0, .slice none 0 0, .slice none 0 0] 43 (0, 0)) :: (100040, g2, .cells #[.int .i64 p1.fKind, .int .i64 p1.fFrom, .int .i64 p1.fTo, .int .i64 p1.fTerm, .int .i64 p1.fIndex, .int .i64 p1.fLogTerm, .int .i64 p1.fCommit, .bool p1.fGood, .slice Ap1_0 p1.fEntries.length cp1_0, .slice Ap1_1 p1.fVoters.length cp1_1, .string p1.fSnap] 25 (0, 0)) :: H, (100404, ⟨.slice A67 x53.length c68, 25, 11, x53.length, (x53.zip ps70).flatMap GNote.encP⟩) :: R, φ72⟩ (fun _ h => h) <| c_seq <| c_region <| g_v rfl (r_field (n := 0) Try.underlying84 rfl Try.sizeOf43 rfl rfl) <| g_v rfl (r_loadA (tag := 100090) rfl rfl Try.isAgg43 Try.sizeOf43 rfl rfl) <| g_v rfl r_move <| g_storeL (tag := 100060) rfl rfl rfl rfl Try.sizeOf43 rfl rfl <| g_v rfl r_assign <| g_nil <| d_then ?_
    refine c_ret ?_
    replace hm := Option.some.inj hm
    subst hm
    refine d_sta _ (fun W h => ok_frontR (t := 100404) (t' := 2004) h rfl) ?_
    refine d_retC (A55, c56, A58, c59, A61, c62, A64, c65, A67, c68, ps70) Try.results17 ?_ ⟨hc56, hc59, hc62, hc65, ⟨hc68.1, hc68.2⟩⟩ (fun W h => ((((h.dropH (t := 100090) rfl).dropH (t := 100080) rfl).dropH (t := 100060) rfl).dropH (t := 100040) rfl).phi (fun W hφ => ⟨(q51 _ (q72 _ hφ)), (fun W h => f57 W h) W hφ, (fun W h => f60 W h) W hφ, (fun W h => f63 W h) W hφ, (fun W h => f66 W h) W hφ, (fun W h => (f71 W h)) W hφ⟩)) (.inr rfl)
    refine res_agg (tag := 100060) rfl rfl Try.isAgg43 Try.sizeOf43 <| res_tmp <| res_nil ?_
    exact rfl
 ·
  replace hm := ite_t hm (of_decide_eq_true h6)
  refine g_no rfl rfl rfl rfl rfl h6 <| g_no rfl rfl rfl rfl rfl h6 <| g_no rfl rfl rfl rfl rfl h6 <| g_no rfl rfl rfl rfl rfl h6 <| g_v rfl (r_pick1 rfl h6) <| g_nil <| d_then ?_
  refine c_flat [(2, .int .i64 p2), (3, .pointer (some ⟨g1, 0, none⟩)), (4, .pointer (some ⟨g2, 0, none⟩)), (6, .pointer (some ⟨g3, 0, none⟩)), (20, .bool true)] ⟨rfl, rfl, rfl, rfl, rfl, trivial⟩ (fun u => ?_)
  refine c_sta ⟨w0, M, (100060, g3, .cells #[.int .i64 0, .int .i64 0, .int .i64 0, .int .i64 0, .int .i64 0, .int .i64 0, .int .i64 0, .slice none 0 0, .string (⟨#[]⟩ : ByteArray), .int .i64 0, .int .i64 0, .slice none 0 0, .slice none 0 0, .slice none 0 0] 43 (0, 0)) :: (100040, g2, .cells #[.int .i64 p1.fKind, .int .i64 p1.fFrom, .int .i64 p1.fTo, .int .i64 p1.fTerm, .int .i64 p1.fIndex, .int .i64 p1.fLogTerm, .int .i64 p1.fCommit, .bool p1.fGood, .slice Ap1_0 p1.fEntries.length cp1_0, .slice Ap1_1 p1.fVoters.length cp1_1, .string p1.fSnap] 25 (0, 0)) :: (100030, g1, .cells #[.int .i64 p0.fMe, .int .i64 p0.fRole, .int .i64 p0.fLeader, .int .i64 p0.fCommit, .int .i64 p0.fLeft, .int .i64 p0.fHard.fTerm, .int .i64 p0.fHard.fVote, .slice Ap0_0 p0.fHard.fVoters.length cp0_0, .string p0.fHard.fSnap, .int .i64 p0.fHard.fLog.fBase, .int .i64 p0.fHard.fLog.fBaseTerm, .slice Ap0_1 p0.fHard.fLog.fEntries.length cp0_1, .slice Ap0_2 p0.fVotes.length cp0_2, .slice Ap0_3 p0.fMarks.length cp0_3] 43 (0, 0)) :: H, R, φ⟩ (fun _ h => h) <| c_cond1 rfl rfl <| c_seq <| c_region <| g_v rfl (r_loadA (tag := 100030) rfl rfl Try.isAgg43 Try.sizeOf43 rfl rfl) <| g_storeL (tag := 100060) rfl rfl rfl rfl Try.sizeOf43 rfl rfl <| g_v rfl r_assign <| g_nil <| d_then <| c_ret ?_
  refine d_ret_then ?_
  replace hm := Option.some.inj hm
  subst hm
  refine d_sta _ (fun W h => nilR h 12 25 11) <| d_sta _ (fun W h => ok_frontR (t := 12) (t' := 2004) h rfl) ?_
  refine d_retC (Ap0_0, cp0_0, Ap0_1, cp0_1, Ap0_2, cp0_2, Ap0_3, cp0_3, none, 0, ([] : List GNoteP)) Try.results17 ?_ ⟨hcp0_0, hcp0_1, hcp0_2, hcp0_3, ⟨DOk.nil, (Nat.le_refl 0)⟩⟩ (fun W h => (((h.dropH (t := 100060) rfl).dropH (t := 100040) rfl).dropH (t := 100030) rfl).phi (fun W hφ => ⟨hφ, (fun W h => fp0_0 W h) W hφ, (fun W h => fp0_1 W h) W hφ, (fun W h => fp0_2 W h) W hφ, (fun W h => fp0_3 W h) W hφ, (fun W h => DOwn.nil) W hφ⟩)) (.inr rfl)
  refine res_agg (tag := 100060) rfl rfl Try.isAgg43 Try.sizeOf43 <| res_tmp <| res_nil ?_
  exact rfl
theorem lit3_23 (z0 : Int) (z1 : Int) : Try.prog.builtSlice 3 2 [(0, .int .i64 z0), (1, .int .i64 z1)] = some #[.int .i64 z0, .int .i64 z1] := by kernel_rfl
noncomputable def m_law12_awake  : Option Bool :=
  (m_raft_New 0 (⟨0, 0, [0], (⟨#[]⟩ : ByteArray), (⟨0, 0, ([] : List GEntry)⟩ : GLog)⟩ : GHard) 0).bind fun x4 =>
  (m_raft_Tick x4 5).bind fun (z40 : GRaft × (List GNote)) =>
  (m_raft_New 0 (⟨0, 0, [0, 1, 2], (⟨#[]⟩ : ByteArray), (⟨0, 0, ([] : List GEntry)⟩ : GLog)⟩ : GHard) 0).bind fun x45 =>
  (m_raft_Tick x45 7).bind fun (z81 : GRaft × (List GNote)) =>
  if (z81.2.length : Int) ≠ 2 then
    some false
  else
    (at_ z81.2 1).bind fun x84 =>
    if x84.fTo ≠ 2 then
      some false
    else
      (at_ z81.2 0).bind fun x96 =>
      if x96.fKind ≠ 1 then
        some false
      else
        (m_raft_Receive z81.1 (⟨2, 1, 0, 1, 0, 0, 0, true, ([] : List GEntry), ([] : List Int), (⟨#[]⟩ : ByteArray)⟩ : GNote) 5).bind fun (z129 : GRaft × (List GNote)) =>
        if z40.1.fRole = 2 then
          if z40.1.fHard.fTerm = 1 then
            if z40.1.fCommit = 1 then
              if z81.1.fLeft = 7 then
                if z81.1.fRole = 1 then
                  if z129.1.fRole = 2 then
                    if (z129.2.length : Int) = 2 then
                      (at_ z129.2 0).bind fun x138 =>
                      if x138.fKind = 3 then
                        (at_ z129.2 0).bind fun x150 =>
                        if (x150.fEntries.length : Int) = 1 then
                          (m_raft_Majority [1, 2, 3] [3, 1]).bind fun x164 =>
                          some x164
                        else
                          some false
                      else
                        some false
                    else
                      some false
                  else
                    some false
                else
                  some false
              else
                some false
            else
              some false
          else
            some false
        else
          some false
theorem c_law12_awake {w0 : World} {M : Nat → Prop} {H : List (Nat × Nat × Obj)} {R : List (Nat × Row)} {φ : World → Prop}  (r : Bool) (hm : m_law12_awake = some r) :
    Cn Try.prog 9 #[] ⟨w0, M, H, R, φ⟩ (fun x : Unit => .bool r) (fun x => True) (fun x => ⟨w0, M, H, R, φ⟩) := by
 unfold m_law12_awake at hm
 refine cn_intro (fn := Try.f9) (N := 98) Try.func9 rfl Try.ntmps9 rfl <| c_seq <| c_region <| g_v rfl r_assign <| g_nil <| d_then <| c_seq <| c_region ?_
 refine g_e rfl (e_lit (tag := 100080) (l := [0]) (enc := (fun x : Int => [Value.int .i64 x])) (sz := 1) rfl Try.underlying23 (lit3_0 _) rfl rfl (fun _ => rfl)) (fun g1 _ => ?_)
 refine g_v rfl (r_build _ rfl (bld40_1 _ _ _)) ?_
 refine g_shut (tag := 100080) rfl (fun φ2 q2' => ?_)
 have q2 : ∀ W, φ2 W → φ W := fun W h => (q2' W h).1
 have f3 := fun (W : World) (h : φ2 W) => (q2' W h).2
 replace hm := bnd hm
 obtain ⟨x4, hx5, hm⟩ := hm
 refine g_cn ⟨w0, M, _, _, φ2⟩ (fun _ h => h) Try.call16 rfl rfl (c_raft_New 0 (⟨0, 0, [0], (⟨#[]⟩ : ByteArray), (⟨0, 0, ([] : List GEntry)⟩ : GLog)⟩ : GHard) (some ⟨g1, 0, none⟩) 1 (Nat.le_refl _) (fun W h => f3 W h) none 0 (Nat.le_refl 0) (fun W _ => Cl.nil _ _) 0 _ hx5) (fun ⟨A6, c7, A9, c10, A12, c13, A15, c16⟩ ⟨hc7, hc10, hc13, hc16⟩ => ?_)
 refine g_abs (fun φ18 q18' => ?_)
 have q18 : ∀ W, φ18 W → φ2 W := fun W h => (q18' W h).1
 have f8 := fun (W : World) (h : φ18 W) => (q18' W h).2.1
 have f11 := fun (W : World) (h : φ18 W) => (q18' W h).2.2.1
 have f14 := fun (W : World) (h : φ18 W) => (q18' W h).2.2.2.1
 have f17 := fun (W : World) (h : φ18 W) => (q18' W h).2.2.2.2
 replace hm := bnd hm
 obtain ⟨⟨x19, x20⟩, hx21, hm⟩ := hm
 refine g_cn ⟨w0, M, _, _, φ18⟩ (fun _ h => h) Try.call18 rfl rfl (c_raft_Tick x4 A6 c7 hc7 (fun W h => f8 W h) A9 c10 hc10 (fun W h => f11 W h) A12 c13 hc13 (fun W h => f14 W h) A15 c16 hc16 (fun W h => f17 W h) 5 _ hx21) (fun ⟨A22, c23, A25, c26, A28, c29, A31, c32, A34, c35, ps37⟩ ⟨hc23, hc26, hc29, hc32, hc35⟩ => ?_)
 refine g_sta _ (fun W h => (ok_frontR (t := 2004) (t' := 100114) h rfl)) ?_
 refine g_abs (fun φ39 q39' => ?_)
 have q39 : ∀ W, φ39 W → φ18 W := fun W h => (q39' W h).1
 have f24 := fun (W : World) (h : φ39 W) => (q39' W h).2.1
 have f27 := fun (W : World) (h : φ39 W) => (q39' W h).2.2.1
 have f30 := fun (W : World) (h : φ39 W) => (q39' W h).2.2.2.1
 have f33 := fun (W : World) (h : φ39 W) => (q39' W h).2.2.2.2.1
 have f38 := fun (W : World) (h : φ39 W) => (q39' W h).2.2.2.2.2
 refine g_v rfl r_move <| g_v rfl (r_extract rfl rfl) <| g_v rfl (r_extract rfl rfl) ?_
 refine g_e rfl (e_alloc 100010 Try.zeroValue43) (fun g41 _ => ?_)
 refine g_storeL (tag := 100010) rfl rfl rfl rfl Try.sizeOf43 rfl rfl <| g_v rfl r_assign <| g_nil <| d_then ?_
 refine c_flat [(1, .pointer (some ⟨g41, 0, none⟩))] ⟨rfl, trivial⟩ (fun u => ?_)
 refine c_sta ⟨w0, M, (100010, g41, .cells #[.int .i64 x19.fMe, .int .i64 x19.fRole, .int .i64 x19.fLeader, .int .i64 x19.fCommit, .int .i64 x19.fLeft, .int .i64 x19.fHard.fTerm, .int .i64 x19.fHard.fVote, .slice A22 x19.fHard.fVoters.length c23, .string x19.fHard.fSnap, .int .i64 x19.fHard.fLog.fBase, .int .i64 x19.fHard.fLog.fBaseTerm, .slice A25 x19.fHard.fLog.fEntries.length c26, .slice A28 x19.fVotes.length c29, .slice A31 x19.fMarks.length c32] 43 (0, 0)) :: H, (100114, ⟨.slice A34 x20.length c35, 25, 11, x20.length, (x20.zip ps37).flatMap GNote.encP⟩) :: R, φ39⟩ (fun _ h => h) <| c_seq <| c_region ?_
 refine g_e rfl (e_lit (tag := 100150) (l := [0, 1, 2]) (enc := (fun x : Int => [Value.int .i64 x])) (sz := 1) rfl Try.underlying23 (lit3_17 _ _ _) rfl rfl (fun _ => rfl)) (fun g42 _ => ?_)
 refine g_v rfl (r_build _ rfl (bld40_1 _ _ _)) ?_
 refine g_shut (tag := 100150) rfl (fun φ43 q43' => ?_)
 have q43 : ∀ W, φ43 W → φ39 W := fun W h => (q43' W h).1
 have f44 := fun (W : World) (h : φ43 W) => (q43' W h).2
 replace hm := bnd hm
 obtain ⟨x45, hx46, hm⟩ := hm
 refine g_cn ⟨w0, M, _, _, φ43⟩ (fun _ h => h) Try.call16 rfl rfl (c_raft_New 0 (⟨0, 0, [0, 1, 2], (⟨#[]⟩ : ByteArray), (⟨0, 0, ([] : List GEntry)⟩ : GLog)⟩ : GHard) (some ⟨g42, 0, none⟩) 3 (Nat.le_refl _) (fun W h => f44 W h) none 0 (Nat.le_refl 0) (fun W _ => Cl.nil _ _) 0 _ hx46) (fun ⟨A47, c48, A50, c51, A53, c54, A56, c57⟩ ⟨hc48, hc51, hc54, hc57⟩ => ?_)
 refine g_abs (fun φ59 q59' => ?_)
 have q59 : ∀ W, φ59 W → φ43 W := fun W h => (q59' W h).1
 have f49 := fun (W : World) (h : φ59 W) => (q59' W h).2.1
 have f52 := fun (W : World) (h : φ59 W) => (q59' W h).2.2.1
 have f55 := fun (W : World) (h : φ59 W) => (q59' W h).2.2.2.1
 have f58 := fun (W : World) (h : φ59 W) => (q59' W h).2.2.2.2
 replace hm := bnd hm
 obtain ⟨⟨x60, x61⟩, hx62, hm⟩ := hm
 refine g_cn ⟨w0, M, _, _, φ59⟩ (fun _ h => h) Try.call18 rfl rfl (c_raft_Tick x45 A47 c48 hc48 (fun W h => f49 W h) A50 c51 hc51 (fun W h => f52 W h) A53 c54 hc54 (fun W h => f55 W h) A56 c57 hc57 (fun W h => f58 W h) 7 _ hx62) (fun ⟨A63, c64, A66, c67, A69, c70, A72, c73, A75, c76, ps78⟩ ⟨hc64, hc67, hc70, hc73, hc76⟩ => ?_)
 refine g_sta _ (fun W h => (ok_frontR (t := 2004) (t' := 100184) h rfl)) ?_
 refine g_abs (fun φ80 q80' => ?_)
 have q80 : ∀ W, φ80 W → φ59 W := fun W h => (q80' W h).1
 have f65 := fun (W : World) (h : φ80 W) => (q80' W h).2.1
 have f68 := fun (W : World) (h : φ80 W) => (q80' W h).2.2.1
 have f71 := fun (W : World) (h : φ80 W) => (q80' W h).2.2.2.1
 have f74 := fun (W : World) (h : φ80 W) => (q80' W h).2.2.2.2.1
 have f79 := fun (W : World) (h : φ80 W) => (q80' W h).2.2.2.2.2
 refine g_v rfl r_move <| g_v rfl (r_extract rfl rfl) <| g_v rfl (r_extract rfl rfl) ?_
 refine g_e rfl (e_alloc 100030 Try.zeroValue43) (fun g82 _ => ?_)
 refine g_storeL (tag := 100030) rfl rfl rfl rfl Try.sizeOf43 rfl rfl <| g_v rfl r_assign <| g_nil <| d_then ?_
 refine c_flat [(1, .pointer (some ⟨g41, 0, none⟩)), (3, .pointer (some ⟨g82, 0, none⟩)), (4, .slice A75 x61.length c76)] ⟨rfl, rfl, rfl, trivial⟩ (fun u => ?_)
 refine c_sta ⟨w0, M, (100030, g82, .cells #[.int .i64 x60.fMe, .int .i64 x60.fRole, .int .i64 x60.fLeader, .int .i64 x60.fCommit, .int .i64 x60.fLeft, .int .i64 x60.fHard.fTerm, .int .i64 x60.fHard.fVote, .slice A63 x60.fHard.fVoters.length c64, .string x60.fHard.fSnap, .int .i64 x60.fHard.fLog.fBase, .int .i64 x60.fHard.fLog.fBaseTerm, .slice A66 x60.fHard.fLog.fEntries.length c67, .slice A69 x60.fVotes.length c70, .slice A72 x60.fMarks.length c73] 43 (0, 0)) :: (100010, g41, .cells #[.int .i64 x19.fMe, .int .i64 x19.fRole, .int .i64 x19.fLeader, .int .i64 x19.fCommit, .int .i64 x19.fLeft, .int .i64 x19.fHard.fTerm, .int .i64 x19.fHard.fVote, .slice A22 x19.fHard.fVoters.length c23, .string x19.fHard.fSnap, .int .i64 x19.fHard.fLog.fBase, .int .i64 x19.fHard.fLog.fBaseTerm, .slice A25 x19.fHard.fLog.fEntries.length c26, .slice A28 x19.fVotes.length c29, .slice A31 x19.fMarks.length c32] 43 (0, 0)) :: H, (100184, ⟨.slice A75 x61.length c76, 25, 11, x61.length, (x61.zip ps78).flatMap GNote.encP⟩) :: (100114, ⟨.slice A34 x20.length c35, 25, 11, x20.length, (x20.zip ps37).flatMap GNote.encP⟩) :: R, φ80⟩ (fun _ h => h) <| c_seq <| c_seq <| c_region <| g_v rfl r_move <| g_v rfl (r_lenL Try.underlying48 rfl) <| g_v rfl (r_neq rfl rfl) <| g_v rfl r_move ?_
 refine g_if rfl rfl rfl rfl rfl (fun h83 => ?_) (fun h83 => ?_)
 ·
  replace hm := ite_f hm (of_decide_eq_false h83)
  refine g_v rfl r_move <| g_do rfl rfl rfl rfl rfl h83 ?_
  replace hm := bnd hm
  obtain ⟨x84, hx84, hm⟩ := hm
  obtain ⟨pp88, hv89, hz90, hcp91⟩ := DOk.at_ hc76.1 hx84
  refine g_know _ (fun W hS => cl_at (p := (Sta.ok ⟨w0, M, (100030, g82, .cells #[.int .i64 x60.fMe, .int .i64 x60.fRole, .int .i64 x60.fLeader, .int .i64 x60.fCommit, .int .i64 x60.fLeft, .int .i64 x60.fHard.fTerm, .int .i64 x60.fHard.fVote, .slice A63 x60.fHard.fVoters.length c64, .string x60.fHard.fSnap, .int .i64 x60.fHard.fLog.fBase, .int .i64 x60.fHard.fLog.fBaseTerm, .slice A66 x60.fHard.fLog.fEntries.length c67, .slice A69 x60.fVotes.length c70, .slice A72 x60.fMarks.length c73] 43 (0, 0)) :: (100010, g41, .cells #[.int .i64 x19.fMe, .int .i64 x19.fRole, .int .i64 x19.fLeader, .int .i64 x19.fCommit, .int .i64 x19.fLeft, .int .i64 x19.fHard.fTerm, .int .i64 x19.fHard.fVote, .slice A22 x19.fHard.fVoters.length c23, .string x19.fHard.fSnap, .int .i64 x19.fHard.fLog.fBase, .int .i64 x19.fHard.fLog.fBaseTerm, .slice A25 x19.fHard.fLog.fEntries.length c26, .slice A28 x19.fVotes.length c29, .slice A31 x19.fMarks.length c32] 43 (0, 0)) :: H, (100184, ⟨.slice A75 x61.length c76, 25, 11, x61.length, (x61.zip ps78).flatMap GNote.encP⟩) :: (100114, ⟨.slice A34 x20.length c35, 25, 11, x20.length, (x20.zip ps37).flatMap GNote.encP⟩) :: R, φ80⟩)) (sz := 11) (fun _ => rfl) (by decide) hS (fun W hS => rowCl (S := ⟨w0, M, (100030, g82, .cells #[.int .i64 x60.fMe, .int .i64 x60.fRole, .int .i64 x60.fLeader, .int .i64 x60.fCommit, .int .i64 x60.fLeft, .int .i64 x60.fHard.fTerm, .int .i64 x60.fHard.fVote, .slice A63 x60.fHard.fVoters.length c64, .string x60.fHard.fSnap, .int .i64 x60.fHard.fLog.fBase, .int .i64 x60.fHard.fLog.fBaseTerm, .slice A66 x60.fHard.fLog.fEntries.length c67, .slice A69 x60.fVotes.length c70, .slice A72 x60.fMarks.length c73] 43 (0, 0)) :: (100010, g41, .cells #[.int .i64 x19.fMe, .int .i64 x19.fRole, .int .i64 x19.fLeader, .int .i64 x19.fCommit, .int .i64 x19.fLeft, .int .i64 x19.fHard.fTerm, .int .i64 x19.fHard.fVote, .slice A22 x19.fHard.fVoters.length c23, .string x19.fHard.fSnap, .int .i64 x19.fHard.fLog.fBase, .int .i64 x19.fHard.fLog.fBaseTerm, .slice A25 x19.fHard.fLog.fEntries.length c26, .slice A28 x19.fVotes.length c29, .slice A31 x19.fMarks.length c32] 43 (0, 0)) :: H, (100184, ⟨.slice A75 x61.length c76, 25, 11, x61.length, (x61.zip ps78).flatMap GNote.encP⟩) :: (100114, ⟨.slice A34 x20.length c35, 25, 11, x20.length, (x20.zip ps37).flatMap GNote.encP⟩) :: R, φ80⟩) (tag := 100184) rfl W hS) hv89) ?_
  rintro ⟨ad85, hA87, f86⟩
  have f92 := fun (W : World) (h : φ80 W) => (f79 W h _ hz90).1
  have f93 := fun (W : World) (h : φ80 W) => (f79 W h _ hz90).2
  refine g_v rfl (r_ix Try.underlying48 Try.sizeOf25 rfl hA87 rfl hx84) <| g_do rfl rfl rfl rfl rfl h83 ?_
  have f94 := fun (W : World) (h : (Sta.ok ⟨w0, M, (100030, g82, .cells #[.int .i64 x60.fMe, .int .i64 x60.fRole, .int .i64 x60.fLeader, .int .i64 x60.fCommit, .int .i64 x60.fLeft, .int .i64 x60.fHard.fTerm, .int .i64 x60.fHard.fVote, .slice A63 x60.fHard.fVoters.length c64, .string x60.fHard.fSnap, .int .i64 x60.fHard.fLog.fBase, .int .i64 x60.fHard.fLog.fBaseTerm, .slice A66 x60.fHard.fLog.fEntries.length c67, .slice A69 x60.fVotes.length c70, .slice A72 x60.fMarks.length c73] 43 (0, 0)) :: (100010, g41, .cells #[.int .i64 x19.fMe, .int .i64 x19.fRole, .int .i64 x19.fLeader, .int .i64 x19.fCommit, .int .i64 x19.fLeft, .int .i64 x19.fHard.fTerm, .int .i64 x19.fHard.fVote, .slice A22 x19.fHard.fVoters.length c23, .string x19.fHard.fSnap, .int .i64 x19.fHard.fLog.fBase, .int .i64 x19.fHard.fLog.fBaseTerm, .slice A25 x19.fHard.fLog.fEntries.length c26, .slice A28 x19.fVotes.length c29, .slice A31 x19.fMarks.length c32] 43 (0, 0)) :: H, (100184, ⟨.slice A75 x61.length c76, 25, 11, x61.length, (x61.zip ps78).flatMap GNote.encP⟩) :: (100114, ⟨.slice A34 x20.length c35, 25, 11, x20.length, (x20.zip ps37).flatMap GNote.encP⟩) :: R, φ80⟩) W) => Cl.drop (f86 W h) 2
  refine g_v rfl (r_fieldF Try.underlying25 rfl Try.sizeOf3 rfl) <| g_do rfl rfl rfl rfl rfl h83 <| g_v rfl (r_ld rfl Try.isAgg3 (fun W hS => Cl.head (f94 W hS))) <| g_do rfl rfl rfl rfl rfl h83 <| g_v rfl (r_neq rfl rfl) <| g_v rfl (r_pick0 rfl h83) <| g_v rfl r_move ?_
  refine g_if rfl rfl rfl rfl rfl (fun h95 => ?_) (fun h95 => ?_)
  ·
   replace hm := ite_f hm (of_decide_eq_false h95)
   refine g_v rfl r_move <| g_do rfl rfl rfl rfl rfl h95 ?_
   replace hm := bnd hm
   obtain ⟨x96, hx96, hm⟩ := hm
   obtain ⟨pp100, hv101, hz102, hcp103⟩ := DOk.at_ hc76.1 hx96
   refine g_know _ (fun W hS => cl_at (p := (Sta.ok ⟨w0, M, (100030, g82, .cells #[.int .i64 x60.fMe, .int .i64 x60.fRole, .int .i64 x60.fLeader, .int .i64 x60.fCommit, .int .i64 x60.fLeft, .int .i64 x60.fHard.fTerm, .int .i64 x60.fHard.fVote, .slice A63 x60.fHard.fVoters.length c64, .string x60.fHard.fSnap, .int .i64 x60.fHard.fLog.fBase, .int .i64 x60.fHard.fLog.fBaseTerm, .slice A66 x60.fHard.fLog.fEntries.length c67, .slice A69 x60.fVotes.length c70, .slice A72 x60.fMarks.length c73] 43 (0, 0)) :: (100010, g41, .cells #[.int .i64 x19.fMe, .int .i64 x19.fRole, .int .i64 x19.fLeader, .int .i64 x19.fCommit, .int .i64 x19.fLeft, .int .i64 x19.fHard.fTerm, .int .i64 x19.fHard.fVote, .slice A22 x19.fHard.fVoters.length c23, .string x19.fHard.fSnap, .int .i64 x19.fHard.fLog.fBase, .int .i64 x19.fHard.fLog.fBaseTerm, .slice A25 x19.fHard.fLog.fEntries.length c26, .slice A28 x19.fVotes.length c29, .slice A31 x19.fMarks.length c32] 43 (0, 0)) :: H, (100184, ⟨.slice A75 x61.length c76, 25, 11, x61.length, (x61.zip ps78).flatMap GNote.encP⟩) :: (100114, ⟨.slice A34 x20.length c35, 25, 11, x20.length, (x20.zip ps37).flatMap GNote.encP⟩) :: R, φ80⟩)) (sz := 11) (fun _ => rfl) (by decide) hS (fun W hS => rowCl (S := ⟨w0, M, (100030, g82, .cells #[.int .i64 x60.fMe, .int .i64 x60.fRole, .int .i64 x60.fLeader, .int .i64 x60.fCommit, .int .i64 x60.fLeft, .int .i64 x60.fHard.fTerm, .int .i64 x60.fHard.fVote, .slice A63 x60.fHard.fVoters.length c64, .string x60.fHard.fSnap, .int .i64 x60.fHard.fLog.fBase, .int .i64 x60.fHard.fLog.fBaseTerm, .slice A66 x60.fHard.fLog.fEntries.length c67, .slice A69 x60.fVotes.length c70, .slice A72 x60.fMarks.length c73] 43 (0, 0)) :: (100010, g41, .cells #[.int .i64 x19.fMe, .int .i64 x19.fRole, .int .i64 x19.fLeader, .int .i64 x19.fCommit, .int .i64 x19.fLeft, .int .i64 x19.fHard.fTerm, .int .i64 x19.fHard.fVote, .slice A22 x19.fHard.fVoters.length c23, .string x19.fHard.fSnap, .int .i64 x19.fHard.fLog.fBase, .int .i64 x19.fHard.fLog.fBaseTerm, .slice A25 x19.fHard.fLog.fEntries.length c26, .slice A28 x19.fVotes.length c29, .slice A31 x19.fMarks.length c32] 43 (0, 0)) :: H, (100184, ⟨.slice A75 x61.length c76, 25, 11, x61.length, (x61.zip ps78).flatMap GNote.encP⟩) :: (100114, ⟨.slice A34 x20.length c35, 25, 11, x20.length, (x20.zip ps37).flatMap GNote.encP⟩) :: R, φ80⟩) (tag := 100184) rfl W hS) hv101) ?_
   rintro ⟨ad97, hA99, f98⟩
   have f104 := fun (W : World) (h : φ80 W) => (f79 W h _ hz102).1
   have f105 := fun (W : World) (h : φ80 W) => (f79 W h _ hz102).2
   refine g_v rfl (r_ix Try.underlying48 Try.sizeOf25 rfl hA99 rfl hx96) <| g_do rfl rfl rfl rfl rfl h95 ?_
   have f106 := fun (W : World) (h : (Sta.ok ⟨w0, M, (100030, g82, .cells #[.int .i64 x60.fMe, .int .i64 x60.fRole, .int .i64 x60.fLeader, .int .i64 x60.fCommit, .int .i64 x60.fLeft, .int .i64 x60.fHard.fTerm, .int .i64 x60.fHard.fVote, .slice A63 x60.fHard.fVoters.length c64, .string x60.fHard.fSnap, .int .i64 x60.fHard.fLog.fBase, .int .i64 x60.fHard.fLog.fBaseTerm, .slice A66 x60.fHard.fLog.fEntries.length c67, .slice A69 x60.fVotes.length c70, .slice A72 x60.fMarks.length c73] 43 (0, 0)) :: (100010, g41, .cells #[.int .i64 x19.fMe, .int .i64 x19.fRole, .int .i64 x19.fLeader, .int .i64 x19.fCommit, .int .i64 x19.fLeft, .int .i64 x19.fHard.fTerm, .int .i64 x19.fHard.fVote, .slice A22 x19.fHard.fVoters.length c23, .string x19.fHard.fSnap, .int .i64 x19.fHard.fLog.fBase, .int .i64 x19.fHard.fLog.fBaseTerm, .slice A25 x19.fHard.fLog.fEntries.length c26, .slice A28 x19.fVotes.length c29, .slice A31 x19.fMarks.length c32] 43 (0, 0)) :: H, (100184, ⟨.slice A75 x61.length c76, 25, 11, x61.length, (x61.zip ps78).flatMap GNote.encP⟩) :: (100114, ⟨.slice A34 x20.length c35, 25, 11, x20.length, (x20.zip ps37).flatMap GNote.encP⟩) :: R, φ80⟩) W) => Cl.drop (f98 W h) 0
   refine g_v rfl (r_fieldF Try.underlying25 rfl Try.sizeOf3 rfl) <| g_do rfl rfl rfl rfl rfl h95 <| g_v rfl (r_ld rfl Try.isAgg3 (fun W hS => Cl.head (f106 W hS))) <| g_do rfl rfl rfl rfl rfl h95 <| g_v rfl (r_neq rfl rfl) <| g_v rfl (r_pick0 rfl h95) <| g_nil <| d_then ?_
   refine c_flat [(1, .pointer (some ⟨g41, 0, none⟩)), (3, .pointer (some ⟨g82, 0, none⟩)), (37, .bool (decide (x96.fKind ≠ 1)))] ⟨rfl, rfl, rfl, trivial⟩ (fun u => ?_)
   refine c_cond rfl (fun h107 => ?_) (fun h107 => ?_)
   ·
    replace hm := ite_t hm (of_decide_eq_true h107)
    refine c_seq <| c_region <| g_v rfl r_assign <| g_nil <| d_then <| c_ret <| d_ret_then ?_
    replace hm := Option.some.inj hm
    subst hm
    refine d_retC () Try.results9 ?_ trivial (fun W h => ok_pre (H1 := [_, _]) (R1 := [_, _]) h (fun W hφ => (q2 _ (q18 _ (q39 _ (q43 _ (q59 _ (q80 _ hφ)))))))) (.inr rfl)
    refine res_tmp <| res_nil ?_
    exact rfl
   ·
    replace hm := ite_f hm (of_decide_eq_false h107)
    refine c_skip <| d_then <| c_seq <| c_region <| g_v rfl (r_loadA (tag := 100030) rfl rfl Try.isAgg43 Try.sizeOf43 rfl rfl) <| g_v rfl (r_build _ rfl (bld25_18 _ _ _ _ _)) ?_
    replace hm := bnd hm
    obtain ⟨⟨x108, x109⟩, hx110, hm⟩ := hm
    refine g_cn ⟨w0, M, _, _, φ80⟩ (fun _ h => h) Try.call17 rfl rfl (c_raft_Receive x60 A63 c64 hc64 (fun W h => f65 W h) A66 c67 hc67 (fun W h => f68 W h) A69 c70 hc70 (fun W h => f71 W h) A72 c73 hc73 (fun W h => f74 W h) (⟨2, 1, 0, 1, 0, 0, 0, true, ([] : List GEntry), ([] : List Int), (⟨#[]⟩ : ByteArray)⟩ : GNote) none 0 (Nat.le_refl 0) (fun W _ => Cl.nil _ _) none 0 (Nat.le_refl 0) (fun W _ => Cl.nil _ _) 5 _ hx110) (fun ⟨A111, c112, A114, c115, A117, c118, A120, c121, A123, c124, ps126⟩ ⟨hc112, hc115, hc118, hc121, hc124⟩ => ?_)
    refine g_sta _ (fun W h => (ok_frontR (t := 2004) (t' := 100414) h rfl)) ?_
    refine g_abs (fun φ128 q128' => ?_)
    have q128 : ∀ W, φ128 W → φ80 W := fun W h => (q128' W h).1
    have f113 := fun (W : World) (h : φ128 W) => (q128' W h).2.1
    have f116 := fun (W : World) (h : φ128 W) => (q128' W h).2.2.1
    have f119 := fun (W : World) (h : φ128 W) => (q128' W h).2.2.2.1
    have f122 := fun (W : World) (h : φ128 W) => (q128' W h).2.2.2.2.1
    have f127 := fun (W : World) (h : φ128 W) => (q128' W h).2.2.2.2.2
    refine g_v rfl r_move <| g_v rfl (r_extract rfl rfl) <| g_v rfl (r_extract rfl rfl) ?_
    refine g_e rfl (e_alloc 100050 Try.zeroValue43) (fun g130 _ => ?_)
    refine g_storeL (tag := 100050) rfl rfl rfl rfl Try.sizeOf43 rfl rfl <| g_v rfl r_assign <| g_nil <| d_then ?_
    refine c_flat [(1, .pointer (some ⟨g41, 0, none⟩)), (3, .pointer (some ⟨g82, 0, none⟩)), (5, .pointer (some ⟨g130, 0, none⟩)), (6, .slice A123 x109.length c124)] ⟨rfl, rfl, rfl, rfl, trivial⟩ (fun u => ?_)
    refine c_sta ⟨w0, M, (100050, g130, .cells #[.int .i64 x108.fMe, .int .i64 x108.fRole, .int .i64 x108.fLeader, .int .i64 x108.fCommit, .int .i64 x108.fLeft, .int .i64 x108.fHard.fTerm, .int .i64 x108.fHard.fVote, .slice A111 x108.fHard.fVoters.length c112, .string x108.fHard.fSnap, .int .i64 x108.fHard.fLog.fBase, .int .i64 x108.fHard.fLog.fBaseTerm, .slice A114 x108.fHard.fLog.fEntries.length c115, .slice A117 x108.fVotes.length c118, .slice A120 x108.fMarks.length c121] 43 (0, 0)) :: (100030, g82, .cells #[.int .i64 x60.fMe, .int .i64 x60.fRole, .int .i64 x60.fLeader, .int .i64 x60.fCommit, .int .i64 x60.fLeft, .int .i64 x60.fHard.fTerm, .int .i64 x60.fHard.fVote, .slice A63 x60.fHard.fVoters.length c64, .string x60.fHard.fSnap, .int .i64 x60.fHard.fLog.fBase, .int .i64 x60.fHard.fLog.fBaseTerm, .slice A66 x60.fHard.fLog.fEntries.length c67, .slice A69 x60.fVotes.length c70, .slice A72 x60.fMarks.length c73] 43 (0, 0)) :: (100010, g41, .cells #[.int .i64 x19.fMe, .int .i64 x19.fRole, .int .i64 x19.fLeader, .int .i64 x19.fCommit, .int .i64 x19.fLeft, .int .i64 x19.fHard.fTerm, .int .i64 x19.fHard.fVote, .slice A22 x19.fHard.fVoters.length c23, .string x19.fHard.fSnap, .int .i64 x19.fHard.fLog.fBase, .int .i64 x19.fHard.fLog.fBaseTerm, .slice A25 x19.fHard.fLog.fEntries.length c26, .slice A28 x19.fVotes.length c29, .slice A31 x19.fMarks.length c32] 43 (0, 0)) :: H, (100414, ⟨.slice A123 x109.length c124, 25, 11, x109.length, (x109.zip ps126).flatMap GNote.encP⟩) :: (100184, ⟨.slice A75 x61.length c76, 25, 11, x61.length, (x61.zip ps78).flatMap GNote.encP⟩) :: (100114, ⟨.slice A34 x20.length c35, 25, 11, x20.length, (x20.zip ps37).flatMap GNote.encP⟩) :: R, φ128⟩ (fun _ h => h) <| c_seq <| c_region <| g_v rfl (r_field (n := 1) Try.underlying43 rfl Try.sizeOf3 rfl rfl) <| g_v rfl (r_load (tag := 100010) rfl rfl rfl Try.isAgg3) <| g_v rfl (r_eql rfl rfl) <| g_v rfl r_move ?_
    refine g_if rfl rfl rfl rfl rfl (fun h131 => ?_) (fun h131 => ?_)
    ·
     replace hm := ite_t hm (of_decide_eq_true h131)
     refine g_v rfl (r_field (n := 5) Try.underlying43 rfl Try.sizeOf40 rfl rfl) <| g_do rfl rfl rfl rfl rfl h131 <| g_v rfl (r_field (n := 5) Try.underlying40 rfl Try.sizeOf3 rfl rfl) <| g_do rfl rfl rfl rfl rfl h131 <| g_v rfl (r_load (tag := 100010) rfl rfl rfl Try.isAgg3) <| g_do rfl rfl rfl rfl rfl h131 <| g_v rfl (r_eql rfl rfl) <| g_v rfl (r_pick1 rfl h131) <| g_v rfl r_move ?_
     refine g_if rfl rfl rfl rfl rfl (fun h132 => ?_) (fun h132 => ?_)
     ·
      replace hm := ite_t hm (of_decide_eq_true h132)
      refine g_v rfl (r_field (n := 3) Try.underlying43 rfl Try.sizeOf3 rfl rfl) <| g_do rfl rfl rfl rfl rfl h132 <| g_v rfl (r_load (tag := 100010) rfl rfl rfl Try.isAgg3) <| g_do rfl rfl rfl rfl rfl h132 <| g_v rfl (r_eql rfl rfl) <| g_v rfl (r_pick1 rfl h132) <| g_v rfl r_move ?_
      refine g_if rfl rfl rfl rfl rfl (fun h133 => ?_) (fun h133 => ?_)
      ·
       replace hm := ite_t hm (of_decide_eq_true h133)
       refine g_v rfl (r_field (n := 4) Try.underlying43 rfl Try.sizeOf3 rfl rfl) <| g_do rfl rfl rfl rfl rfl h133 <| g_v rfl (r_load (tag := 100030) rfl rfl rfl Try.isAgg3) <| g_do rfl rfl rfl rfl rfl h133 <| g_v rfl (r_eql rfl rfl) <| g_v rfl (r_pick1 rfl h133) <| g_v rfl r_move ?_
       refine g_if rfl rfl rfl rfl rfl (fun h134 => ?_) (fun h134 => ?_)
       ·
        replace hm := ite_t hm (of_decide_eq_true h134)
        refine g_v rfl (r_field (n := 1) Try.underlying43 rfl Try.sizeOf3 rfl rfl) <| g_do rfl rfl rfl rfl rfl h134 <| g_v rfl (r_load (tag := 100030) rfl rfl rfl Try.isAgg3) <| g_do rfl rfl rfl rfl rfl h134 <| g_v rfl (r_eql rfl rfl) <| g_v rfl (r_pick1 rfl h134) <| g_v rfl r_move ?_
        refine g_if rfl rfl rfl rfl rfl (fun h135 => ?_) (fun h135 => ?_)
        ·
         replace hm := ite_t hm (of_decide_eq_true h135)
         refine g_v rfl (r_field (n := 1) Try.underlying43 rfl Try.sizeOf3 rfl rfl) <| g_do rfl rfl rfl rfl rfl h135 <| g_v rfl (r_load (tag := 100050) rfl rfl rfl Try.isAgg3) <| g_do rfl rfl rfl rfl rfl h135 <| g_v rfl (r_eql rfl rfl) <| g_v rfl (r_pick1 rfl h135) <| g_v rfl r_move ?_
         refine g_if rfl rfl rfl rfl rfl (fun h136 => ?_) (fun h136 => ?_)
         ·
          replace hm := ite_t hm (of_decide_eq_true h136)
          refine g_v rfl r_move <| g_do rfl rfl rfl rfl rfl h136 <| g_v rfl (r_lenL Try.underlying48 rfl) <| g_do rfl rfl rfl rfl rfl h136 <| g_v rfl (r_eql rfl rfl) <| g_v rfl (r_pick1 rfl h136) <| g_v rfl r_move ?_
          refine g_if rfl rfl rfl rfl rfl (fun h137 => ?_) (fun h137 => ?_)
          ·
           replace hm := ite_t hm (of_decide_eq_true h137)
           refine g_v rfl r_move <| g_do rfl rfl rfl rfl rfl h137 ?_
           replace hm := bnd hm
           obtain ⟨x138, hx138, hm⟩ := hm
           obtain ⟨pp142, hv143, hz144, hcp145⟩ := DOk.at_ hc124.1 hx138
           refine g_know _ (fun W hS => cl_at (p := (Sta.ok ⟨w0, M, (100050, g130, .cells #[.int .i64 x108.fMe, .int .i64 x108.fRole, .int .i64 x108.fLeader, .int .i64 x108.fCommit, .int .i64 x108.fLeft, .int .i64 x108.fHard.fTerm, .int .i64 x108.fHard.fVote, .slice A111 x108.fHard.fVoters.length c112, .string x108.fHard.fSnap, .int .i64 x108.fHard.fLog.fBase, .int .i64 x108.fHard.fLog.fBaseTerm, .slice A114 x108.fHard.fLog.fEntries.length c115, .slice A117 x108.fVotes.length c118, .slice A120 x108.fMarks.length c121] 43 (0, 0)) :: (100030, g82, .cells #[.int .i64 x60.fMe, .int .i64 x60.fRole, .int .i64 x60.fLeader, .int .i64 x60.fCommit, .int .i64 x60.fLeft, .int .i64 x60.fHard.fTerm, .int .i64 x60.fHard.fVote, .slice A63 x60.fHard.fVoters.length c64, .string x60.fHard.fSnap, .int .i64 x60.fHard.fLog.fBase, .int .i64 x60.fHard.fLog.fBaseTerm, .slice A66 x60.fHard.fLog.fEntries.length c67, .slice A69 x60.fVotes.length c70, .slice A72 x60.fMarks.length c73] 43 (0, 0)) :: (100010, g41, .cells #[.int .i64 x19.fMe, .int .i64 x19.fRole, .int .i64 x19.fLeader, .int .i64 x19.fCommit, .int .i64 x19.fLeft, .int .i64 x19.fHard.fTerm, .int .i64 x19.fHard.fVote, .slice A22 x19.fHard.fVoters.length c23, .string x19.fHard.fSnap, .int .i64 x19.fHard.fLog.fBase, .int .i64 x19.fHard.fLog.fBaseTerm, .slice A25 x19.fHard.fLog.fEntries.length c26, .slice A28 x19.fVotes.length c29, .slice A31 x19.fMarks.length c32] 43 (0, 0)) :: H, (100414, ⟨.slice A123 x109.length c124, 25, 11, x109.length, (x109.zip ps126).flatMap GNote.encP⟩) :: (100184, ⟨.slice A75 x61.length c76, 25, 11, x61.length, (x61.zip ps78).flatMap GNote.encP⟩) :: (100114, ⟨.slice A34 x20.length c35, 25, 11, x20.length, (x20.zip ps37).flatMap GNote.encP⟩) :: R, φ128⟩)) (sz := 11) (fun _ => rfl) (by decide) hS (fun W hS => rowCl (S := ⟨w0, M, (100050, g130, .cells #[.int .i64 x108.fMe, .int .i64 x108.fRole, .int .i64 x108.fLeader, .int .i64 x108.fCommit, .int .i64 x108.fLeft, .int .i64 x108.fHard.fTerm, .int .i64 x108.fHard.fVote, .slice A111 x108.fHard.fVoters.length c112, .string x108.fHard.fSnap, .int .i64 x108.fHard.fLog.fBase, .int .i64 x108.fHard.fLog.fBaseTerm, .slice A114 x108.fHard.fLog.fEntries.length c115, .slice A117 x108.fVotes.length c118, .slice A120 x108.fMarks.length c121] 43 (0, 0)) :: (100030, g82, .cells #[.int .i64 x60.fMe, .int .i64 x60.fRole, .int .i64 x60.fLeader, .int .i64 x60.fCommit, .int .i64 x60.fLeft, .int .i64 x60.fHard.fTerm, .int .i64 x60.fHard.fVote, .slice A63 x60.fHard.fVoters.length c64, .string x60.fHard.fSnap, .int .i64 x60.fHard.fLog.fBase, .int .i64 x60.fHard.fLog.fBaseTerm, .slice A66 x60.fHard.fLog.fEntries.length c67, .slice A69 x60.fVotes.length c70, .slice A72 x60.fMarks.length c73] 43 (0, 0)) :: (100010, g41, .cells #[.int .i64 x19.fMe, .int .i64 x19.fRole, .int .i64 x19.fLeader, .int .i64 x19.fCommit, .int .i64 x19.fLeft, .int .i64 x19.fHard.fTerm, .int .i64 x19.fHard.fVote, .slice A22 x19.fHard.fVoters.length c23, .string x19.fHard.fSnap, .int .i64 x19.fHard.fLog.fBase, .int .i64 x19.fHard.fLog.fBaseTerm, .slice A25 x19.fHard.fLog.fEntries.length c26, .slice A28 x19.fVotes.length c29, .slice A31 x19.fMarks.length c32] 43 (0, 0)) :: H, (100414, ⟨.slice A123 x109.length c124, 25, 11, x109.length, (x109.zip ps126).flatMap GNote.encP⟩) :: (100184, ⟨.slice A75 x61.length c76, 25, 11, x61.length, (x61.zip ps78).flatMap GNote.encP⟩) :: (100114, ⟨.slice A34 x20.length c35, 25, 11, x20.length, (x20.zip ps37).flatMap GNote.encP⟩) :: R, φ128⟩) (tag := 100414) rfl W hS) hv143) ?_
           rintro ⟨ad139, hA141, f140⟩
           have f146 := fun (W : World) (h : φ128 W) => (f127 W h _ hz144).1
           have f147 := fun (W : World) (h : φ128 W) => (f127 W h _ hz144).2
           refine g_v rfl (r_ix Try.underlying48 Try.sizeOf25 rfl hA141 rfl hx138) <| g_do rfl rfl rfl rfl rfl h137 ?_
           have f148 := fun (W : World) (h : (Sta.ok ⟨w0, M, (100050, g130, .cells #[.int .i64 x108.fMe, .int .i64 x108.fRole, .int .i64 x108.fLeader, .int .i64 x108.fCommit, .int .i64 x108.fLeft, .int .i64 x108.fHard.fTerm, .int .i64 x108.fHard.fVote, .slice A111 x108.fHard.fVoters.length c112, .string x108.fHard.fSnap, .int .i64 x108.fHard.fLog.fBase, .int .i64 x108.fHard.fLog.fBaseTerm, .slice A114 x108.fHard.fLog.fEntries.length c115, .slice A117 x108.fVotes.length c118, .slice A120 x108.fMarks.length c121] 43 (0, 0)) :: (100030, g82, .cells #[.int .i64 x60.fMe, .int .i64 x60.fRole, .int .i64 x60.fLeader, .int .i64 x60.fCommit, .int .i64 x60.fLeft, .int .i64 x60.fHard.fTerm, .int .i64 x60.fHard.fVote, .slice A63 x60.fHard.fVoters.length c64, .string x60.fHard.fSnap, .int .i64 x60.fHard.fLog.fBase, .int .i64 x60.fHard.fLog.fBaseTerm, .slice A66 x60.fHard.fLog.fEntries.length c67, .slice A69 x60.fVotes.length c70, .slice A72 x60.fMarks.length c73] 43 (0, 0)) :: (100010, g41, .cells #[.int .i64 x19.fMe, .int .i64 x19.fRole, .int .i64 x19.fLeader, .int .i64 x19.fCommit, .int .i64 x19.fLeft, .int .i64 x19.fHard.fTerm, .int .i64 x19.fHard.fVote, .slice A22 x19.fHard.fVoters.length c23, .string x19.fHard.fSnap, .int .i64 x19.fHard.fLog.fBase, .int .i64 x19.fHard.fLog.fBaseTerm, .slice A25 x19.fHard.fLog.fEntries.length c26, .slice A28 x19.fVotes.length c29, .slice A31 x19.fMarks.length c32] 43 (0, 0)) :: H, (100414, ⟨.slice A123 x109.length c124, 25, 11, x109.length, (x109.zip ps126).flatMap GNote.encP⟩) :: (100184, ⟨.slice A75 x61.length c76, 25, 11, x61.length, (x61.zip ps78).flatMap GNote.encP⟩) :: (100114, ⟨.slice A34 x20.length c35, 25, 11, x20.length, (x20.zip ps37).flatMap GNote.encP⟩) :: R, φ128⟩) W) => Cl.drop (f140 W h) 0
           refine g_v rfl (r_fieldF Try.underlying25 rfl Try.sizeOf3 rfl) <| g_do rfl rfl rfl rfl rfl h137 <| g_v rfl (r_ld rfl Try.isAgg3 (fun W hS => Cl.head (f148 W hS))) <| g_do rfl rfl rfl rfl rfl h137 <| g_v rfl (r_eql rfl rfl) <| g_v rfl (r_pick1 rfl h137) <| g_v rfl r_move ?_
           refine g_if rfl rfl rfl rfl rfl (fun h149 => ?_) (fun h149 => ?_)
           ·
            replace hm := ite_t hm (of_decide_eq_true h149)
            refine g_v rfl r_move <| g_do rfl rfl rfl rfl rfl h149 ?_
            replace hm := bnd hm
            obtain ⟨x150, hx150, hm⟩ := hm
            obtain ⟨pp154, hv155, hz156, hcp157⟩ := DOk.at_ hc124.1 hx150
            refine g_know _ (fun W hS => cl_at (p := (Sta.ok ⟨w0, M, (100050, g130, .cells #[.int .i64 x108.fMe, .int .i64 x108.fRole, .int .i64 x108.fLeader, .int .i64 x108.fCommit, .int .i64 x108.fLeft, .int .i64 x108.fHard.fTerm, .int .i64 x108.fHard.fVote, .slice A111 x108.fHard.fVoters.length c112, .string x108.fHard.fSnap, .int .i64 x108.fHard.fLog.fBase, .int .i64 x108.fHard.fLog.fBaseTerm, .slice A114 x108.fHard.fLog.fEntries.length c115, .slice A117 x108.fVotes.length c118, .slice A120 x108.fMarks.length c121] 43 (0, 0)) :: (100030, g82, .cells #[.int .i64 x60.fMe, .int .i64 x60.fRole, .int .i64 x60.fLeader, .int .i64 x60.fCommit, .int .i64 x60.fLeft, .int .i64 x60.fHard.fTerm, .int .i64 x60.fHard.fVote, .slice A63 x60.fHard.fVoters.length c64, .string x60.fHard.fSnap, .int .i64 x60.fHard.fLog.fBase, .int .i64 x60.fHard.fLog.fBaseTerm, .slice A66 x60.fHard.fLog.fEntries.length c67, .slice A69 x60.fVotes.length c70, .slice A72 x60.fMarks.length c73] 43 (0, 0)) :: (100010, g41, .cells #[.int .i64 x19.fMe, .int .i64 x19.fRole, .int .i64 x19.fLeader, .int .i64 x19.fCommit, .int .i64 x19.fLeft, .int .i64 x19.fHard.fTerm, .int .i64 x19.fHard.fVote, .slice A22 x19.fHard.fVoters.length c23, .string x19.fHard.fSnap, .int .i64 x19.fHard.fLog.fBase, .int .i64 x19.fHard.fLog.fBaseTerm, .slice A25 x19.fHard.fLog.fEntries.length c26, .slice A28 x19.fVotes.length c29, .slice A31 x19.fMarks.length c32] 43 (0, 0)) :: H, (100414, ⟨.slice A123 x109.length c124, 25, 11, x109.length, (x109.zip ps126).flatMap GNote.encP⟩) :: (100184, ⟨.slice A75 x61.length c76, 25, 11, x61.length, (x61.zip ps78).flatMap GNote.encP⟩) :: (100114, ⟨.slice A34 x20.length c35, 25, 11, x20.length, (x20.zip ps37).flatMap GNote.encP⟩) :: R, φ128⟩)) (sz := 11) (fun _ => rfl) (by decide) hS (fun W hS => rowCl (S := ⟨w0, M, (100050, g130, .cells #[.int .i64 x108.fMe, .int .i64 x108.fRole, .int .i64 x108.fLeader, .int .i64 x108.fCommit, .int .i64 x108.fLeft, .int .i64 x108.fHard.fTerm, .int .i64 x108.fHard.fVote, .slice A111 x108.fHard.fVoters.length c112, .string x108.fHard.fSnap, .int .i64 x108.fHard.fLog.fBase, .int .i64 x108.fHard.fLog.fBaseTerm, .slice A114 x108.fHard.fLog.fEntries.length c115, .slice A117 x108.fVotes.length c118, .slice A120 x108.fMarks.length c121] 43 (0, 0)) :: (100030, g82, .cells #[.int .i64 x60.fMe, .int .i64 x60.fRole, .int .i64 x60.fLeader, .int .i64 x60.fCommit, .int .i64 x60.fLeft, .int .i64 x60.fHard.fTerm, .int .i64 x60.fHard.fVote, .slice A63 x60.fHard.fVoters.length c64, .string x60.fHard.fSnap, .int .i64 x60.fHard.fLog.fBase, .int .i64 x60.fHard.fLog.fBaseTerm, .slice A66 x60.fHard.fLog.fEntries.length c67, .slice A69 x60.fVotes.length c70, .slice A72 x60.fMarks.length c73] 43 (0, 0)) :: (100010, g41, .cells #[.int .i64 x19.fMe, .int .i64 x19.fRole, .int .i64 x19.fLeader, .int .i64 x19.fCommit, .int .i64 x19.fLeft, .int .i64 x19.fHard.fTerm, .int .i64 x19.fHard.fVote, .slice A22 x19.fHard.fVoters.length c23, .string x19.fHard.fSnap, .int .i64 x19.fHard.fLog.fBase, .int .i64 x19.fHard.fLog.fBaseTerm, .slice A25 x19.fHard.fLog.fEntries.length c26, .slice A28 x19.fVotes.length c29, .slice A31 x19.fMarks.length c32] 43 (0, 0)) :: H, (100414, ⟨.slice A123 x109.length c124, 25, 11, x109.length, (x109.zip ps126).flatMap GNote.encP⟩) :: (100184, ⟨.slice A75 x61.length c76, 25, 11, x61.length, (x61.zip ps78).flatMap GNote.encP⟩) :: (100114, ⟨.slice A34 x20.length c35, 25, 11, x20.length, (x20.zip ps37).flatMap GNote.encP⟩) :: R, φ128⟩) (tag := 100414) rfl W hS) hv155) ?_
            rintro ⟨ad151, hA153, f152⟩
            have f158 := fun (W : World) (h : φ128 W) => (f127 W h _ hz156).1
            have f159 := fun (W : World) (h : φ128 W) => (f127 W h _ hz156).2
            refine g_v rfl (r_ix Try.underlying48 Try.sizeOf25 rfl hA153 rfl hx150) <| g_do rfl rfl rfl rfl rfl h149 ?_
            have f160 := fun (W : World) (h : (Sta.ok ⟨w0, M, (100050, g130, .cells #[.int .i64 x108.fMe, .int .i64 x108.fRole, .int .i64 x108.fLeader, .int .i64 x108.fCommit, .int .i64 x108.fLeft, .int .i64 x108.fHard.fTerm, .int .i64 x108.fHard.fVote, .slice A111 x108.fHard.fVoters.length c112, .string x108.fHard.fSnap, .int .i64 x108.fHard.fLog.fBase, .int .i64 x108.fHard.fLog.fBaseTerm, .slice A114 x108.fHard.fLog.fEntries.length c115, .slice A117 x108.fVotes.length c118, .slice A120 x108.fMarks.length c121] 43 (0, 0)) :: (100030, g82, .cells #[.int .i64 x60.fMe, .int .i64 x60.fRole, .int .i64 x60.fLeader, .int .i64 x60.fCommit, .int .i64 x60.fLeft, .int .i64 x60.fHard.fTerm, .int .i64 x60.fHard.fVote, .slice A63 x60.fHard.fVoters.length c64, .string x60.fHard.fSnap, .int .i64 x60.fHard.fLog.fBase, .int .i64 x60.fHard.fLog.fBaseTerm, .slice A66 x60.fHard.fLog.fEntries.length c67, .slice A69 x60.fVotes.length c70, .slice A72 x60.fMarks.length c73] 43 (0, 0)) :: (100010, g41, .cells #[.int .i64 x19.fMe, .int .i64 x19.fRole, .int .i64 x19.fLeader, .int .i64 x19.fCommit, .int .i64 x19.fLeft, .int .i64 x19.fHard.fTerm, .int .i64 x19.fHard.fVote, .slice A22 x19.fHard.fVoters.length c23, .string x19.fHard.fSnap, .int .i64 x19.fHard.fLog.fBase, .int .i64 x19.fHard.fLog.fBaseTerm, .slice A25 x19.fHard.fLog.fEntries.length c26, .slice A28 x19.fVotes.length c29, .slice A31 x19.fMarks.length c32] 43 (0, 0)) :: H, (100414, ⟨.slice A123 x109.length c124, 25, 11, x109.length, (x109.zip ps126).flatMap GNote.encP⟩) :: (100184, ⟨.slice A75 x61.length c76, 25, 11, x61.length, (x61.zip ps78).flatMap GNote.encP⟩) :: (100114, ⟨.slice A34 x20.length c35, 25, 11, x20.length, (x20.zip ps37).flatMap GNote.encP⟩) :: R, φ128⟩) W) => Cl.drop (f152 W h) 8
            refine g_v rfl (r_fieldF Try.underlying25 rfl Try.sizeOf22 rfl) <| g_do rfl rfl rfl rfl rfl h149 <| g_v rfl (r_ld rfl Try.isAgg22 (fun W hS => Cl.head (f160 W hS))) <| g_do rfl rfl rfl rfl rfl h149 <| g_v rfl (r_lenL Try.underlying22 rfl) <| g_do rfl rfl rfl rfl rfl h149 <| g_v rfl (r_eql rfl rfl) <| g_v rfl (r_pick1 rfl h149) <| g_v rfl r_move ?_
            refine g_if rfl rfl rfl rfl rfl (fun h161 => ?_) (fun h161 => ?_)
            ·
             replace hm := ite_t hm (of_decide_eq_true h161)
             refine g_e rfl (e_lit (tag := 100940) (l := [1, 2, 3]) (enc := (fun x : Int => [Value.int .i64 x])) (sz := 1) rfl Try.underlying23 (lit3_17 _ _ _) rfl rfl (fun _ => rfl)) (fun g162 _ => ?_)
             refine g_do rfl rfl rfl rfl rfl h161 ?_
             refine g_e rfl (e_lit (tag := 100950) (l := [3, 1]) (enc := (fun x : Int => [Value.int .i64 x])) (sz := 1) rfl Try.underlying23 (lit3_23 _ _) rfl rfl (fun _ => rfl)) (fun g163 _ => ?_)
             refine g_do rfl rfl rfl rfl rfl h161 ?_
             replace hm := bnd hm
             obtain ⟨x164, hx165, hm⟩ := hm
             refine g_cn ⟨w0, M, _, _, φ128⟩ (fun _ h => h) Try.call13 rfl rfl (c_raft_Majority [1, 2, 3] (some ⟨g162, 0, none⟩) 3 (Nat.le_refl _) (fun W hS => rowCl (tag := 100940) rfl W hS) [3, 1] (some ⟨g163, 0, none⟩) 2 (Nat.le_refl _) (fun W hS => rowCl (tag := 100950) rfl W hS) _ hx165) (fun _ _ => ?_)
             refine g_v rfl (r_pick1 rfl h161) <| g_v rfl r_assign <| g_nil <| d_then ?_
             refine c_flat [(0, .bool x164)] ⟨rfl, trivial⟩ (fun u => ?_)
             refine c_sta ⟨w0, M, (100050, g130, .cells #[.int .i64 x108.fMe, .int .i64 x108.fRole, .int .i64 x108.fLeader, .int .i64 x108.fCommit, .int .i64 x108.fLeft, .int .i64 x108.fHard.fTerm, .int .i64 x108.fHard.fVote, .slice A111 x108.fHard.fVoters.length c112, .string x108.fHard.fSnap, .int .i64 x108.fHard.fLog.fBase, .int .i64 x108.fHard.fLog.fBaseTerm, .slice A114 x108.fHard.fLog.fEntries.length c115, .slice A117 x108.fVotes.length c118, .slice A120 x108.fMarks.length c121] 43 (0, 0)) :: (100030, g82, .cells #[.int .i64 x60.fMe, .int .i64 x60.fRole, .int .i64 x60.fLeader, .int .i64 x60.fCommit, .int .i64 x60.fLeft, .int .i64 x60.fHard.fTerm, .int .i64 x60.fHard.fVote, .slice A63 x60.fHard.fVoters.length c64, .string x60.fHard.fSnap, .int .i64 x60.fHard.fLog.fBase, .int .i64 x60.fHard.fLog.fBaseTerm, .slice A66 x60.fHard.fLog.fEntries.length c67, .slice A69 x60.fVotes.length c70, .slice A72 x60.fMarks.length c73] 43 (0, 0)) :: (100010, g41, .cells #[.int .i64 x19.fMe, .int .i64 x19.fRole, .int .i64 x19.fLeader, .int .i64 x19.fCommit, .int .i64 x19.fLeft, .int .i64 x19.fHard.fTerm, .int .i64 x19.fHard.fVote, .slice A22 x19.fHard.fVoters.length c23, .string x19.fHard.fSnap, .int .i64 x19.fHard.fLog.fBase, .int .i64 x19.fHard.fLog.fBaseTerm, .slice A25 x19.fHard.fLog.fEntries.length c26, .slice A28 x19.fVotes.length c29, .slice A31 x19.fMarks.length c32] 43 (0, 0)) :: H, (100950, ⟨.slice (some ⟨g163, 0, none⟩) [3, 1].length 2, 3, 1, [3, 1].length, [3, 1].flatMap (fun x : Int => [Value.int .i64 x])⟩) :: (100940, ⟨.slice (some ⟨g162, 0, none⟩) [1, 2, 3].length 3, 3, 1, [1, 2, 3].length, [1, 2, 3].flatMap (fun x : Int => [Value.int .i64 x])⟩) :: (100414, ⟨.slice A123 x109.length c124, 25, 11, x109.length, (x109.zip ps126).flatMap GNote.encP⟩) :: (100184, ⟨.slice A75 x61.length c76, 25, 11, x61.length, (x61.zip ps78).flatMap GNote.encP⟩) :: (100114, ⟨.slice A34 x20.length c35, 25, 11, x20.length, (x20.zip ps37).flatMap GNote.encP⟩) :: R, φ128⟩ (fun _ h => h) <| c_ret ?_
             replace hm := Option.some.inj hm
             subst hm
             refine d_retC () Try.results9 ?_ trivial (fun W h => ok_pre (H1 := [_, _, _]) (R1 := [_, _, _, _, _]) h (fun W hφ => (q2 _ (q18 _ (q39 _ (q43 _ (q59 _ (q80 _ (q128 _ hφ))))))))) (.inr rfl)
             refine res_tmp <| res_nil ?_
             exact rfl
            ·
             replace hm := ite_f hm (of_decide_eq_false h161)
             refine g_no rfl rfl rfl rfl rfl h161 <| g_no rfl rfl rfl rfl rfl h161 <| g_v rfl (r_pick0 rfl h161) <| g_v rfl r_assign <| g_nil <| d_then ?_
             refine c_flat [(0, .bool false)] ⟨rfl, trivial⟩ (fun u => ?_)
             refine c_ret ?_
             replace hm := Option.some.inj hm
             subst hm
             refine d_retC () Try.results9 ?_ trivial (fun W h => ok_pre (H1 := [_, _, _]) (R1 := [_, _, _]) h (fun W hφ => (q2 _ (q18 _ (q39 _ (q43 _ (q59 _ (q80 _ (q128 _ hφ))))))))) (.inr rfl)
             refine res_tmp <| res_nil ?_
             exact rfl
           ·
            replace hm := ite_f hm (of_decide_eq_false h149)
            refine g_no rfl rfl rfl rfl rfl h149 <| g_no rfl rfl rfl rfl rfl h149 <| g_no rfl rfl rfl rfl rfl h149 <| g_no rfl rfl rfl rfl rfl h149 <| g_no rfl rfl rfl rfl rfl h149 <| g_v rfl (r_pick0 rfl h149) <| g_v rfl r_move <| g_no rfl rfl rfl rfl rfl rfl <| g_no rfl rfl rfl rfl rfl rfl <| g_no rfl rfl rfl rfl rfl rfl ?_
            refine g_v rfl (r_pick0 rfl rfl) <| g_v rfl r_assign <| g_nil <| d_then ?_
            refine c_flat [(0, .bool false)] ⟨rfl, trivial⟩ (fun u => ?_)
            refine c_ret ?_
            replace hm := Option.some.inj hm
            subst hm
            refine d_retC () Try.results9 ?_ trivial (fun W h => ok_pre (H1 := [_, _, _]) (R1 := [_, _, _]) h (fun W hφ => (q2 _ (q18 _ (q39 _ (q43 _ (q59 _ (q80 _ (q128 _ hφ))))))))) (.inr rfl)
            refine res_tmp <| res_nil ?_
            exact rfl
          ·
           replace hm := ite_f hm (of_decide_eq_false h137)
           refine g_no rfl rfl rfl rfl rfl h137 <| g_no rfl rfl rfl rfl rfl h137 <| g_no rfl rfl rfl rfl rfl h137 <| g_no rfl rfl rfl rfl rfl h137 <| g_v rfl (r_pick0 rfl h137) <| g_v rfl r_move <| g_no rfl rfl rfl rfl rfl rfl <| g_no rfl rfl rfl rfl rfl rfl <| g_no rfl rfl rfl rfl rfl rfl <| g_no rfl rfl rfl rfl rfl rfl ?_
           refine g_no rfl rfl rfl rfl rfl rfl <| g_no rfl rfl rfl rfl rfl rfl <| g_v rfl (r_pick0 rfl rfl) <| g_v rfl r_move <| g_no rfl rfl rfl rfl rfl rfl <| g_no rfl rfl rfl rfl rfl rfl <| g_no rfl rfl rfl rfl rfl rfl <| g_v rfl (r_pick0 rfl rfl) <| g_v rfl r_assign <| g_nil ?_
           refine d_then ?_
           refine c_flat [(0, .bool false)] ⟨rfl, trivial⟩ (fun u => ?_)
           refine c_ret ?_
           replace hm := Option.some.inj hm
           subst hm
           refine d_retC () Try.results9 ?_ trivial (fun W h => ok_pre (H1 := [_, _, _]) (R1 := [_, _, _]) h (fun W hφ => (q2 _ (q18 _ (q39 _ (q43 _ (q59 _ (q80 _ (q128 _ hφ))))))))) (.inr rfl)
           refine res_tmp <| res_nil ?_
           exact rfl
         ·
          replace hm := ite_f hm (of_decide_eq_false h136)
          refine g_no rfl rfl rfl rfl rfl h136 <| g_no rfl rfl rfl rfl rfl h136 <| g_v rfl (r_pick0 rfl h136) <| g_v rfl r_move <| g_no rfl rfl rfl rfl rfl rfl <| g_no rfl rfl rfl rfl rfl rfl <| g_no rfl rfl rfl rfl rfl rfl <| g_no rfl rfl rfl rfl rfl rfl <| g_no rfl rfl rfl rfl rfl rfl <| g_v rfl (r_pick0 rfl rfl) ?_
          refine g_v rfl r_move <| g_no rfl rfl rfl rfl rfl rfl <| g_no rfl rfl rfl rfl rfl rfl <| g_no rfl rfl rfl rfl rfl rfl <| g_no rfl rfl rfl rfl rfl rfl <| g_no rfl rfl rfl rfl rfl rfl <| g_no rfl rfl rfl rfl rfl rfl <| g_v rfl (r_pick0 rfl rfl) <| g_v rfl r_move <| g_no rfl rfl rfl rfl rfl rfl ?_
          refine g_no rfl rfl rfl rfl rfl rfl <| g_no rfl rfl rfl rfl rfl rfl <| g_v rfl (r_pick0 rfl rfl) <| g_v rfl r_assign <| g_nil <| d_then ?_
          refine c_flat [(0, .bool false)] ⟨rfl, trivial⟩ (fun u => ?_)
          refine c_ret ?_
          replace hm := Option.some.inj hm
          subst hm
          refine d_retC () Try.results9 ?_ trivial (fun W h => ok_pre (H1 := [_, _, _]) (R1 := [_, _, _]) h (fun W hφ => (q2 _ (q18 _ (q39 _ (q43 _ (q59 _ (q80 _ (q128 _ hφ))))))))) (.inr rfl)
          refine res_tmp <| res_nil ?_
          exact rfl
        ·
         replace hm := ite_f hm (of_decide_eq_false h135)
         refine g_no rfl rfl rfl rfl rfl h135 <| g_no rfl rfl rfl rfl rfl h135 <| g_v rfl (r_pick0 rfl h135) <| g_v rfl r_move <| g_no rfl rfl rfl rfl rfl rfl <| g_no rfl rfl rfl rfl rfl rfl <| g_no rfl rfl rfl rfl rfl rfl <| g_v rfl (r_pick0 rfl rfl) <| g_v rfl r_move <| g_no rfl rfl rfl rfl rfl rfl ?_
         refine g_no rfl rfl rfl rfl rfl rfl <| g_no rfl rfl rfl rfl rfl rfl <| g_no rfl rfl rfl rfl rfl rfl <| g_no rfl rfl rfl rfl rfl rfl <| g_v rfl (r_pick0 rfl rfl) <| g_v rfl r_move <| g_no rfl rfl rfl rfl rfl rfl <| g_no rfl rfl rfl rfl rfl rfl <| g_no rfl rfl rfl rfl rfl rfl <| g_no rfl rfl rfl rfl rfl rfl ?_
         refine g_no rfl rfl rfl rfl rfl rfl <| g_no rfl rfl rfl rfl rfl rfl <| g_v rfl (r_pick0 rfl rfl) <| g_v rfl r_move <| g_no rfl rfl rfl rfl rfl rfl <| g_no rfl rfl rfl rfl rfl rfl <| g_no rfl rfl rfl rfl rfl rfl <| g_v rfl (r_pick0 rfl rfl) <| g_v rfl r_assign <| g_nil ?_
         refine d_then ?_
         refine c_flat [(0, .bool false)] ⟨rfl, trivial⟩ (fun u => ?_)
         refine c_ret ?_
         replace hm := Option.some.inj hm
         subst hm
         refine d_retC () Try.results9 ?_ trivial (fun W h => ok_pre (H1 := [_, _, _]) (R1 := [_, _, _]) h (fun W hφ => (q2 _ (q18 _ (q39 _ (q43 _ (q59 _ (q80 _ (q128 _ hφ))))))))) (.inr rfl)
         refine res_tmp <| res_nil ?_
         exact rfl
       ·
        replace hm := ite_f hm (of_decide_eq_false h134)
        refine g_no rfl rfl rfl rfl rfl h134 <| g_no rfl rfl rfl rfl rfl h134 <| g_v rfl (r_pick0 rfl h134) <| g_v rfl r_move <| g_no rfl rfl rfl rfl rfl rfl <| g_no rfl rfl rfl rfl rfl rfl <| g_no rfl rfl rfl rfl rfl rfl <| g_v rfl (r_pick0 rfl rfl) <| g_v rfl r_move <| g_no rfl rfl rfl rfl rfl rfl ?_
        refine g_no rfl rfl rfl rfl rfl rfl <| g_no rfl rfl rfl rfl rfl rfl <| g_v rfl (r_pick0 rfl rfl) <| g_v rfl r_move <| g_no rfl rfl rfl rfl rfl rfl <| g_no rfl rfl rfl rfl rfl rfl <| g_no rfl rfl rfl rfl rfl rfl <| g_no rfl rfl rfl rfl rfl rfl <| g_no rfl rfl rfl rfl rfl rfl <| g_v rfl (r_pick0 rfl rfl) ?_
        refine g_v rfl r_move <| g_no rfl rfl rfl rfl rfl rfl <| g_no rfl rfl rfl rfl rfl rfl <| g_no rfl rfl rfl rfl rfl rfl <| g_no rfl rfl rfl rfl rfl rfl <| g_no rfl rfl rfl rfl rfl rfl <| g_no rfl rfl rfl rfl rfl rfl <| g_v rfl (r_pick0 rfl rfl) <| g_v rfl r_move <| g_no rfl rfl rfl rfl rfl rfl ?_
        refine g_no rfl rfl rfl rfl rfl rfl <| g_no rfl rfl rfl rfl rfl rfl <| g_v rfl (r_pick0 rfl rfl) <| g_v rfl r_assign <| g_nil <| d_then ?_
        refine c_flat [(0, .bool false)] ⟨rfl, trivial⟩ (fun u => ?_)
        refine c_ret ?_
        replace hm := Option.some.inj hm
        subst hm
        refine d_retC () Try.results9 ?_ trivial (fun W h => ok_pre (H1 := [_, _, _]) (R1 := [_, _, _]) h (fun W hφ => (q2 _ (q18 _ (q39 _ (q43 _ (q59 _ (q80 _ (q128 _ hφ))))))))) (.inr rfl)
        refine res_tmp <| res_nil ?_
        exact rfl
      ·
       replace hm := ite_f hm (of_decide_eq_false h133)
       refine g_no rfl rfl rfl rfl rfl h133 <| g_no rfl rfl rfl rfl rfl h133 <| g_v rfl (r_pick0 rfl h133) <| g_v rfl r_move <| g_no rfl rfl rfl rfl rfl rfl <| g_no rfl rfl rfl rfl rfl rfl <| g_no rfl rfl rfl rfl rfl rfl <| g_v rfl (r_pick0 rfl rfl) <| g_v rfl r_move <| g_no rfl rfl rfl rfl rfl rfl ?_
       refine g_no rfl rfl rfl rfl rfl rfl <| g_no rfl rfl rfl rfl rfl rfl <| g_v rfl (r_pick0 rfl rfl) <| g_v rfl r_move <| g_no rfl rfl rfl rfl rfl rfl <| g_no rfl rfl rfl rfl rfl rfl <| g_no rfl rfl rfl rfl rfl rfl <| g_v rfl (r_pick0 rfl rfl) <| g_v rfl r_move <| g_no rfl rfl rfl rfl rfl rfl ?_
       refine g_no rfl rfl rfl rfl rfl rfl <| g_no rfl rfl rfl rfl rfl rfl <| g_no rfl rfl rfl rfl rfl rfl <| g_no rfl rfl rfl rfl rfl rfl <| g_v rfl (r_pick0 rfl rfl) <| g_v rfl r_move <| g_no rfl rfl rfl rfl rfl rfl <| g_no rfl rfl rfl rfl rfl rfl <| g_no rfl rfl rfl rfl rfl rfl <| g_no rfl rfl rfl rfl rfl rfl ?_
       refine g_no rfl rfl rfl rfl rfl rfl <| g_no rfl rfl rfl rfl rfl rfl <| g_v rfl (r_pick0 rfl rfl) <| g_v rfl r_move <| g_no rfl rfl rfl rfl rfl rfl <| g_no rfl rfl rfl rfl rfl rfl <| g_no rfl rfl rfl rfl rfl rfl <| g_v rfl (r_pick0 rfl rfl) <| g_v rfl r_assign <| g_nil ?_
       refine d_then ?_
       refine c_flat [(0, .bool false)] ⟨rfl, trivial⟩ (fun u => ?_)
       refine c_ret ?_
       replace hm := Option.some.inj hm
       subst hm
       refine d_retC () Try.results9 ?_ trivial (fun W h => ok_pre (H1 := [_, _, _]) (R1 := [_, _, _]) h (fun W hφ => (q2 _ (q18 _ (q39 _ (q43 _ (q59 _ (q80 _ (q128 _ hφ))))))))) (.inr rfl)
       refine res_tmp <| res_nil ?_
       exact rfl
     ·
      replace hm := ite_f hm (of_decide_eq_false h132)
      refine g_no rfl rfl rfl rfl rfl h132 <| g_no rfl rfl rfl rfl rfl h132 <| g_v rfl (r_pick0 rfl h132) <| g_v rfl r_move <| g_no rfl rfl rfl rfl rfl rfl <| g_no rfl rfl rfl rfl rfl rfl <| g_no rfl rfl rfl rfl rfl rfl <| g_v rfl (r_pick0 rfl rfl) <| g_v rfl r_move <| g_no rfl rfl rfl rfl rfl rfl ?_
      refine g_no rfl rfl rfl rfl rfl rfl <| g_no rfl rfl rfl rfl rfl rfl <| g_v rfl (r_pick0 rfl rfl) <| g_v rfl r_move <| g_no rfl rfl rfl rfl rfl rfl <| g_no rfl rfl rfl rfl rfl rfl <| g_no rfl rfl rfl rfl rfl rfl <| g_v rfl (r_pick0 rfl rfl) <| g_v rfl r_move <| g_no rfl rfl rfl rfl rfl rfl ?_
      refine g_no rfl rfl rfl rfl rfl rfl <| g_no rfl rfl rfl rfl rfl rfl <| g_v rfl (r_pick0 rfl rfl) <| g_v rfl r_move <| g_no rfl rfl rfl rfl rfl rfl <| g_no rfl rfl rfl rfl rfl rfl <| g_no rfl rfl rfl rfl rfl rfl <| g_no rfl rfl rfl rfl rfl rfl <| g_no rfl rfl rfl rfl rfl rfl <| g_v rfl (r_pick0 rfl rfl) ?_
      refine g_v rfl r_move <| g_no rfl rfl rfl rfl rfl rfl <| g_no rfl rfl rfl rfl rfl rfl <| g_no rfl rfl rfl rfl rfl rfl <| g_no rfl rfl rfl rfl rfl rfl <| g_no rfl rfl rfl rfl rfl rfl <| g_no rfl rfl rfl rfl rfl rfl <| g_v rfl (r_pick0 rfl rfl) <| g_v rfl r_move <| g_no rfl rfl rfl rfl rfl rfl ?_
      refine g_no rfl rfl rfl rfl rfl rfl <| g_no rfl rfl rfl rfl rfl rfl <| g_v rfl (r_pick0 rfl rfl) <| g_v rfl r_assign <| g_nil <| d_then ?_
      refine c_flat [(0, .bool false)] ⟨rfl, trivial⟩ (fun u => ?_)
      refine c_ret ?_
      replace hm := Option.some.inj hm
      subst hm
      refine d_retC () Try.results9 ?_ trivial (fun W h => ok_pre (H1 := [_, _, _]) (R1 := [_, _, _]) h (fun W hφ => (q2 _ (q18 _ (q39 _ (q43 _ (q59 _ (q80 _ (q128 _ hφ))))))))) (.inr rfl)
      refine res_tmp <| res_nil ?_
      exact rfl
    ·
     replace hm := ite_f hm (of_decide_eq_false h131)
     refine g_no rfl rfl rfl rfl rfl h131 <| g_no rfl rfl rfl rfl rfl h131 <| g_no rfl rfl rfl rfl rfl h131 <| g_v rfl (r_pick0 rfl h131) <| g_v rfl r_move <| g_no rfl rfl rfl rfl rfl rfl <| g_no rfl rfl rfl rfl rfl rfl <| g_no rfl rfl rfl rfl rfl rfl <| g_v rfl (r_pick0 rfl rfl) <| g_v rfl r_move ?_
     refine g_no rfl rfl rfl rfl rfl rfl <| g_no rfl rfl rfl rfl rfl rfl <| g_no rfl rfl rfl rfl rfl rfl <| g_v rfl (r_pick0 rfl rfl) <| g_v rfl r_move <| g_no rfl rfl rfl rfl rfl rfl <| g_no rfl rfl rfl rfl rfl rfl <| g_no rfl rfl rfl rfl rfl rfl <| g_v rfl (r_pick0 rfl rfl) <| g_v rfl r_move ?_
     refine g_no rfl rfl rfl rfl rfl rfl <| g_no rfl rfl rfl rfl rfl rfl <| g_no rfl rfl rfl rfl rfl rfl <| g_v rfl (r_pick0 rfl rfl) <| g_v rfl r_move <| g_no rfl rfl rfl rfl rfl rfl <| g_no rfl rfl rfl rfl rfl rfl <| g_no rfl rfl rfl rfl rfl rfl <| g_v rfl (r_pick0 rfl rfl) <| g_v rfl r_move ?_
     refine g_no rfl rfl rfl rfl rfl rfl <| g_no rfl rfl rfl rfl rfl rfl <| g_no rfl rfl rfl rfl rfl rfl <| g_no rfl rfl rfl rfl rfl rfl <| g_no rfl rfl rfl rfl rfl rfl <| g_v rfl (r_pick0 rfl rfl) <| g_v rfl r_move <| g_no rfl rfl rfl rfl rfl rfl <| g_no rfl rfl rfl rfl rfl rfl <| g_no rfl rfl rfl rfl rfl rfl ?_
     refine g_no rfl rfl rfl rfl rfl rfl <| g_no rfl rfl rfl rfl rfl rfl <| g_no rfl rfl rfl rfl rfl rfl <| g_v rfl (r_pick0 rfl rfl) <| g_v rfl r_move <| g_no rfl rfl rfl rfl rfl rfl <| g_no rfl rfl rfl rfl rfl rfl <| g_no rfl rfl rfl rfl rfl rfl <| g_v rfl (r_pick0 rfl rfl) <| g_v rfl r_assign ?_
     refine g_nil <| d_then ?_
     refine c_flat [(0, .bool false)] ⟨rfl, trivial⟩ (fun u => ?_)
     refine c_ret ?_
     replace hm := Option.some.inj hm
     subst hm
     refine d_retC () Try.results9 ?_ trivial (fun W h => ok_pre (H1 := [_, _, _]) (R1 := [_, _, _]) h (fun W hφ => (q2 _ (q18 _ (q39 _ (q43 _ (q59 _ (q80 _ (q128 _ hφ))))))))) (.inr rfl)
     refine res_tmp <| res_nil ?_
     exact rfl
  ·
   replace hm := ite_t hm (of_decide_eq_true h95)
   refine g_no rfl rfl rfl rfl rfl h95 <| g_no rfl rfl rfl rfl rfl h95 <| g_no rfl rfl rfl rfl rfl h95 <| g_no rfl rfl rfl rfl rfl h95 <| g_v rfl (r_pick1 rfl h95) <| g_nil <| d_then ?_
   refine c_flat [(1, .pointer (some ⟨g41, 0, none⟩)), (3, .pointer (some ⟨g82, 0, none⟩)), (37, .bool true)] ⟨rfl, rfl, rfl, trivial⟩ (fun u => ?_)
   refine c_cond1 rfl rfl <| c_seq <| c_region <| g_v rfl r_assign <| g_nil <| d_then <| c_ret <| d_ret_then ?_
   replace hm := Option.some.inj hm
   subst hm
   refine d_retC () Try.results9 ?_ trivial (fun W h => ok_pre (H1 := [_, _]) (R1 := [_, _]) h (fun W hφ => (q2 _ (q18 _ (q39 _ (q43 _ (q59 _ (q80 _ hφ)))))))) (.inr rfl)
   refine res_tmp <| res_nil ?_
   exact rfl
 ·
  replace hm := ite_t hm (of_decide_eq_true h83)
  refine g_no rfl rfl rfl rfl rfl h83 <| g_no rfl rfl rfl rfl rfl h83 <| g_no rfl rfl rfl rfl rfl h83 <| g_no rfl rfl rfl rfl rfl h83 <| g_v rfl (r_pick1 rfl h83) <| g_v rfl r_move <| g_no rfl rfl rfl rfl rfl rfl <| g_no rfl rfl rfl rfl rfl rfl <| g_no rfl rfl rfl rfl rfl rfl <| g_no rfl rfl rfl rfl rfl rfl ?_
  refine g_no rfl rfl rfl rfl rfl rfl <| g_v rfl (r_pick1 rfl rfl) <| g_nil <| d_then <| c_cond1 rfl rfl <| c_seq <| c_region <| g_v rfl r_assign <| g_nil <| d_then ?_
  refine c_ret <| d_ret_then ?_
  replace hm := Option.some.inj hm
  subst hm
  refine d_retC () Try.results9 ?_ trivial (fun W h => ok_pre (H1 := [_, _]) (R1 := [_, _]) h (fun W hφ => (q2 _ (q18 _ (q39 _ (q43 _ (q59 _ (q80 _ hφ)))))))) (.inr rfl)
  refine res_tmp <| res_nil ?_
  exact rfl
noncomputable def m_law12_pick_j1 (p1 : Int) (i2 : Int) : Option Int :=
  (dvd p1).bind fun u3 =>
  some (i2.tmod p1)
noncomputable def m_law12_pick (p0 : Int) (p1 : Int) : Option Int :=
  if p0 < 0 then
    m_law12_pick_j1 p1 (w64 (0 - w64 (p0 + 1)))
  else
    m_law12_pick_j1 p1 p0
theorem c_law12_pick {w0 : World} {M : Nat → Prop} {H : List (Nat × Nat × Obj)} {R : List (Nat × Row)} {φ : World → Prop} (p0 : Int) (p1 : Int) (r : Int) (hm : m_law12_pick p0 p1 = some r) :
    Cn Try.prog 15 #[.int .i64 p0, .int .i64 p1] ⟨w0, M, H, R, φ⟩ (fun x : Unit => .int .i64 r) (fun x => True) (fun x => ⟨w0, M, H, R, φ⟩) := by
 unfold m_law12_pick at hm
 refine cn_intro (fn := Try.f15) (N := 13) Try.func15 rfl Try.ntmps15 rfl <| c_seq <| c_region <| g_v rfl r_assign <| g_nil <| d_then <| c_seq ?_
 refine c_cut (ι := Int) [0, 1] (fun i2 => [(0, .int .i64 i2)]) (fun i2 => ⟨w0, M, H, R, φ⟩) (fun i2 => m_law12_pick_j1 p1 i2 = some r) ?_ (fun i2 u hm => ?_)
 ·
  refine c_seq <| c_region <| g_v rfl r_move <| g_v rfl (r_lss rfl rfl) <| g_nil <| d_then ?_
  refine c_cond rfl (fun h4 => ?_) (fun h4 => ?_)
  ·
   replace hm := ite_t hm (of_decide_eq_true h4)
   refine c_region <| g_v rfl r_move <| g_v rfl (r_add rfl rfl rfl) <| g_v rfl (r_neg rfl rfl) <| g_v rfl r_assign <| g_nil ?_
   exact d_round (w64 (0 - w64 (p0 + 1))) hm Nat.zero_lt_one ⟨rfl, rfl, trivial⟩ (fun W h => h.phi (fun W hφ => hφ))
  ·
   replace hm := ite_f hm (of_decide_eq_false h4)
   refine c_skip ?_
   exact d_round p0 hm Nat.zero_lt_one ⟨rfl, rfl, trivial⟩ (fun W h => h.phi (fun W hφ => hφ))
 ·
  unfold m_law12_pick_j1 at hm
  refine d_flat [(0, .int .i64 i2), (1, .int .i64 p1)] ⟨rfl, rfl, trivial⟩ (fun u => ?_)
  refine d_sta ⟨w0, M, H, R, φ⟩ (fun _ h => h) <| d_then <| c_seq <| c_region <| g_v rfl r_move <| g_v rfl r_move ?_
  replace hm := bnd hm
  obtain ⟨u3, hu3, hm⟩ := hm
  refine g_v rfl (r_rem rfl rfl (dvd_some hu3) rfl) <| g_v rfl r_assign <| g_nil <| d_then <| c_ret ?_
  replace hm := Option.some.inj hm
  subst hm
  refine d_retC () Try.results15 ?_ trivial (fun W h => ok_pre (H1 := []) (R1 := []) h (fun W hφ => hφ)) (.inr rfl)
  refine res_tmp <| res_nil ?_
  exact rfl
noncomputable def m_raft_state_change_c1 (p0 : GEntry) : Option Bool :=
  some (decide (p0.fKind = 1))
theorem c_raft_state_change_c1 {w0 : World} {M : Nat → Prop} {H : List (Nat × Nat × Obj)} {R : List (Nat × Row)} {φ : World → Prop} (p0 : GEntry) (r : Bool) (hm : m_raft_state_change_c1 p0 = some r) :
    Cn Try.prog 70 #[.agg #[.int .i64 p0.fTerm, .int .i64 p0.fKind, .string p0.fData]] ⟨w0, M, H, R, φ⟩ (fun x : Unit => .bool r) (fun x => True) (fun x => ⟨w0, M, H, R, φ⟩) := by
 unfold m_raft_state_change_c1 at hm
 refine cn_intro (fn := Try.f70) (N := 6) Try.func70 rfl Try.ntmps70 rfl <| c_seq <| c_region ?_
 refine g_e rfl (e_box 100010 rfl) (fun g1 _ => ?_)
 refine g_v rfl r_assign <| g_nil <| d_then <| c_seq <| c_region <| g_v rfl (r_field (n := 1) Try.underlying36 rfl Try.sizeOf3 rfl rfl) <| g_v rfl (r_load (tag := 100010) rfl rfl rfl Try.isAgg3) <| g_v rfl (r_eql rfl rfl) <| g_v rfl r_assign <| g_nil ?_
 refine d_then <| c_ret ?_
 replace hm := Option.some.inj hm
 subst hm
 refine d_retC () Try.results70 ?_ trivial (fun W h => ok_pre (H1 := [_]) (R1 := []) h (fun W hφ => hφ)) (.inr rfl)
 refine res_tmp <| res_nil ?_
 exact rfl
noncomputable def m_slices_IndexFunc_85_j1  : Option Int :=
  some (-1)
noncomputable def m_slices_IndexFunc_85_s2 (p0 : List GEntry) (i30 : Int) : Option (Int ⊕ (Unit ⊕ Int)) :=
  if i30 < (p0.length : Int) then
    (at_ p0 i30).bind fun x42 =>
    (m_raft_state_change_c1 x42).bind fun x46 =>
    if x46 = true then
      some (.inr (.inr i30))
    else
      some (.inl (w64 (i30 + 1)))
  else
    some (.inr (.inl ()))
noncomputable def m_slices_IndexFunc_85 (p0 : List GEntry) : Option Int :=
  (loop (fun s => m_slices_IndexFunc_85_s2 p0 s) 0).bind fun e => Sum.elim (fun e => m_slices_IndexFunc_85_j1) (fun x => some x) e
theorem c_slices_IndexFunc_85 {w0 : World} {M : Nat → Prop} {H : List (Nat × Nat × Obj)} {R : List (Nat × Row)} {φ : World → Prop} (p0 : List GEntry) (Ap0_0 : Option Addr) (cp0_0 : Nat) (hcp0_0 : p0.length ≤ cp0_0) (fp0_0 : ∀ W, (Sta.mk w0 M H R φ).ok W → Cl W Ap0_0 (p0.flatMap GEntry.enc)) (r : Int) (hm : m_slices_IndexFunc_85 p0 = some r) :
    Cn Try.prog 85 #[.slice Ap0_0 p0.length cp0_0, .func (.func 70) #[] #[]] ⟨w0, M, H, R, φ⟩ (fun x : Unit => .int .i64 r) (fun x => True) (fun x => ⟨w0, M, H, R, φ⟩) := by
 unfold m_slices_IndexFunc_85 at hm
 refine cn_intro (fn := Try.f85) (N := 19) Try.func85 rfl Try.ntmps85 rfl <| c_seq <| c_region <| g_v rfl r_assign <| g_nil <| d_then <| c_seq <| c_seq <| c_region <| g_v rfl r_move ?_
 refine g_v rfl (r_lenL Try.underlying22 rfl) <| g_v rfl r_move <| g_nil <| d_then ?_
 refine c_cut (ι := Unit) [] (fun _ => []) (fun _ => ⟨w0, M, H, R, φ⟩) (fun _ => m_slices_IndexFunc_85_j1 = some r) ?_ (fun _ u hm => ?_)
 ·
  refine c_block ?_
  replace hm := bnd hm
  obtain ⟨out2, hl2, hr2⟩ := hm
  obtain ⟨n40', hl2⟩ := loop_lp hl2
  refine c_loopU (ι := Nat × Int) [0, 1, 7, 8] (fun ⟨n40, i30⟩ => [(8, .int .i64 i30)]) (fun ⟨n40, i30⟩ => ⟨w0, M, H, R, φ⟩) (fun ⟨n40, i30⟩ => Lp (fun s => m_slices_IndexFunc_85_s2 p0 s) n40 i30 out2) (fun ⟨n40, i30⟩ => n40) (n40', 0) hl2 ⟨rfl, rfl, rfl, rfl, trivial⟩ (fun W h => h.phi (fun W hφ => hφ)) (fun ⟨n40, i30⟩ u hlp => ?_)
  obtain ⟨o2, hm, hnx2⟩ := lp_step hlp
  clear hlp
  replace hm : m_slices_IndexFunc_85_s2 p0 i30 = some o2 := hm
  unfold m_slices_IndexFunc_85_s2 at hm
  refine c_flat [(0, .slice Ap0_0 p0.length cp0_0), (1, .func (.func 70) #[] #[]), (7, .int .i64 (p0.length : Int)), (8, .int .i64 i30)] ⟨rfl, rfl, rfl, rfl, trivial⟩ (fun u => ?_)
  refine c_sta ⟨w0, M, H, R, φ⟩ (fun _ h => h) <| c_seq <| c_region <| g_v rfl (r_lss rfl rfl) <| g_nil <| d_then <| c_seq ?_
  refine c_cond rfl (fun h41 => ?_) (fun h41 => ?_)
  ·
   replace hm := ite_t hm (of_decide_eq_true h41)
   refine c_skip <| d_then <| c_seq <| c_block <| c_seq <| c_region <| g_v rfl r_move <| g_v rfl r_assign <| g_nil <| d_then ?_
   refine c_seq <| c_region <| g_v rfl r_move <| g_v rfl r_move <| g_v rfl r_move ?_
   replace hm := bnd hm
   obtain ⟨x42, hx42, hm⟩ := hm
   refine g_know _ (fun W hS => cl_at (p := (Sta.mk w0 M H R φ).ok) (sz := 3) (fun _ => rfl) (by decide) (ok_pre (H1 := []) (R1 := []) hS (fun W h => h)) fp0_0 hx42) ?_
   rintro ⟨ad43, hA45, f44⟩
   refine g_v rfl (r_ix Try.underlying22 Try.sizeOf36 rfl hA45 rfl hx42) <| g_v rfl (r_ldA rfl Try.isAgg36 Try.sizeOf36 (fun W hS => (f44 W (ok_pre (H1 := []) (R1 := []) hS (fun W h => h))).take 3) rfl) ?_
   replace hm := bnd hm
   obtain ⟨x46, hx47, hm⟩ := hm
   refine g_cnv ⟨w0, M, _, _, φ⟩ (fun _ h => h) Try.call70 rfl rfl rfl (c_raft_state_change_c1 x42 _ hx47) (fun _ _ => ?_)
   refine g_nil <| d_then ?_
   refine c_flat [(0, .slice Ap0_0 p0.length cp0_0), (1, .func (.func 70) #[] #[]), (5, .int .i64 i30), (7, .int .i64 (p0.length : Int)), (8, .int .i64 i30), (16, .bool x46)] ⟨rfl, rfl, rfl, rfl, rfl, rfl, trivial⟩ (fun u => ?_)
   refine c_cond rfl (fun h48 => ?_) (fun h48 => ?_)
   ·
    replace hm := ite_t hm h48
    refine c_seq <| c_region <| g_v rfl r_move <| g_v rfl r_assign <| g_nil <| d_then <| c_ret <| d_ret_block <| d_ret_then <| d_ret_then ?_
    refine d_ret_block <| d_ret_then <| d_ret_then ?_
    replace hm := nx_out (C := (fun e : Unit ⊕ Int => Sum.elim (fun e => m_slices_IndexFunc_85_j1) (fun x => some x) e = some r)) hm hnx2 hr2
    replace hm : some i30 = some r := hm
    replace hm := Option.some.inj hm
    subst hm
    refine d_retC () Try.results85 ?_ trivial (fun W h => ok_pre (H1 := []) (R1 := []) h (fun W hφ => hφ)) (.inr rfl)
    refine res_tmp <| res_nil ?_
    exact rfl
   ·
    replace hm := ite_f hm (bool_nt h48)
    refine c_skip <| d_normal_block <| d_then <| c_region <| g_v rfl (r_add rfl rfl rfl) <| g_v rfl r_move <| g_nil ?_
    obtain ⟨n49, hn49, hlp⟩ := nx_inl hm hnx2
    exact d_round (n49, w64 (i30 + 1)) hlp hn49 ⟨rfl, rfl, rfl, rfl, trivial⟩ (fun W h => h.phi (fun W hφ => hφ))
  ·
   replace hm := ite_f hm (of_decide_eq_false h41)
   refine c_exit <| d_exit_then <| d_exit_then <| d_exit_block ?_
   replace hm := nx_out (C := (fun e : Unit ⊕ Int => Sum.elim (fun e => m_slices_IndexFunc_85_j1) (fun x => some x) e = some r)) hm hnx2 hr2
   exact d_round () hm Nat.zero_lt_one trivial (fun W h => h.phi (fun W hφ => hφ))
 ·
  unfold m_slices_IndexFunc_85_j1 at hm
  refine d_flat [] trivial (fun u => ?_)
  refine d_sta ⟨w0, M, H, R, φ⟩ (fun _ h => h) <| d_then <| c_seq <| c_region <| g_v rfl r_assign <| g_nil <| d_then <| c_ret ?_
  replace hm := Option.some.inj hm
  subst hm
  refine d_retC () Try.results85 ?_ trivial (fun W h => ok_pre (H1 := []) (R1 := []) h (fun W hφ => hφ)) (.inr rfl)
  refine res_tmp <| res_nil ?_
  exact rfl
noncomputable def m_slices_ContainsFunc_68 (p0 : List GEntry) : Option Bool :=
  (m_slices_IndexFunc_85 p0).bind fun x1 =>
  some (decide (0 ≤ x1))
theorem c_slices_ContainsFunc_68 {w0 : World} {M : Nat → Prop} {H : List (Nat × Nat × Obj)} {R : List (Nat × Row)} {φ : World → Prop} (p0 : List GEntry) (Ap0_0 : Option Addr) (cp0_0 : Nat) (hcp0_0 : p0.length ≤ cp0_0) (fp0_0 : ∀ W, (Sta.mk w0 M H R φ).ok W → Cl W Ap0_0 (p0.flatMap GEntry.enc)) (r : Bool) (hm : m_slices_ContainsFunc_68 p0 = some r) :
    Cn Try.prog 68 #[.slice Ap0_0 p0.length cp0_0, .func (.func 70) #[] #[]] ⟨w0, M, H, R, φ⟩ (fun x : Unit => .bool r) (fun x => True) (fun x => ⟨w0, M, H, R, φ⟩) := by
 unfold m_slices_ContainsFunc_68 at hm
 refine cn_intro (fn := Try.f68) (N := 9) Try.func68 rfl Try.ntmps68 rfl <| c_seq <| c_region <| g_v rfl r_assign <| g_nil <| d_then <| c_seq <| c_region <| g_v rfl r_move <| g_v rfl r_move ?_
 replace hm := bnd hm
 obtain ⟨x1, hx2, hm⟩ := hm
 refine g_cn ⟨w0, M, _, _, φ⟩ (fun _ h => h) Try.call85 rfl rfl (c_slices_IndexFunc_85 p0 Ap0_0 cp0_0 hcp0_0 (fun W hS => fp0_0 W (ok_pre (H1 := []) (R1 := []) hS (fun W h => h))) _ hx2) (fun _ _ => ?_)
 refine g_v rfl (r_geq rfl rfl) <| g_v rfl r_assign <| g_nil <| d_then <| c_ret ?_
 replace hm := Option.some.inj hm
 subst hm
 refine d_retC () Try.results68 ?_ trivial (fun W h => ok_pre (H1 := []) (R1 := []) h (fun W hφ => hφ)) (.inr rfl)
 refine res_tmp <| res_nil ?_
 exact rfl
noncomputable def m_raft_state_change_j1 (x3 : Bool) (x2 : List Int) (p0 : Graft_state) (i32 : Int) : Option Int :=
  if x3 = true then
    (m_slices_Contains_35 x2 p0.fRaft.fMe).bind fun x34 =>
    if x34 = true then
      if i32 ≠ 1 then
        some 1
      else
        (m_plog_Term p0.fRaft.fHard.fLog p0.fRaft.fCommit).bind fun (z41 : Int × Bool) =>
        (m_plog_Slice p0.fRaft.fHard.fLog (w64 (p0.fRaft.fCommit + 1)) (p0.fRaft.fHard.fLog.fEntries.length : Int)).bind fun x42 =>
        (m_slices_ContainsFunc_68 x42).bind fun x47 =>
        if x47 = true then
          some 13
        else
          if z41.1 ≠ p0.fRaft.fHard.fTerm then
            some 13
          else
            some 0
    else
      some 1
  else
    some 1
noncomputable def m_raft_state_change_s2 (x2 : List Int) (x9 : List Int) (i58 : Int) (i59 : Int) : Option ((Int × Int) ⊕ Int) :=
  if i59 < 64 then
    (m_slices_Contains_35 x2 i59).bind fun x70 =>
    (m_slices_Contains_35 x9 i59).bind fun x72 =>
    if (!(x70 == x72)) = true then
      some (.inl (w64 (i58 + 1), w64 (i59 + 1)))
    else
      some (.inl (i58, w64 (i59 + 1)))
  else
    some (.inr i58)
noncomputable def m_raft_state_change (p0 : Graft_state) (p1 : ByteArray) : Option Int :=
  (m_plog_List p1).bind fun (z8 : (List Int) × Bool) =>
  (m_raft_state_voters p0).bind fun x9 =>
  (loop (fun s => m_raft_state_change_s2 z8.1 x9 s.1 s.2) (0, 0)).bind fun e => m_raft_state_change_j1 z8.2 z8.1 p0 e
theorem c_raft_state_change {w0 : World} {M : Nat → Prop} {H : List (Nat × Nat × Obj)} {R : List (Nat × Row)} {φ : World → Prop} (p0 : Graft_state) (Ap0_0 : Option Addr) (cp0_0 : Nat) (hcp0_0 : p0.fRaft.fHard.fVoters.length ≤ cp0_0) (fp0_0 : ∀ W, (Sta.mk w0 M H R φ).ok W → Cl W Ap0_0 (p0.fRaft.fHard.fVoters.flatMap (fun x : Int => [Value.int .i64 x]))) (Ap0_1 : Option Addr) (cp0_1 : Nat) (hcp0_1 : p0.fRaft.fHard.fLog.fEntries.length ≤ cp0_1) (fp0_1 : ∀ W, (Sta.mk w0 M H R φ).ok W → Cl W Ap0_1 (p0.fRaft.fHard.fLog.fEntries.flatMap GEntry.enc)) (Ap0_2 : Option Addr) (cp0_2 : Nat) (hcp0_2 : p0.fRaft.fVotes.length ≤ cp0_2) (fp0_2 : ∀ W, (Sta.mk w0 M H R φ).ok W → Cl W Ap0_2 (p0.fRaft.fVotes.flatMap (fun x : Int => [Value.int .i64 x]))) (Ap0_3 : Option Addr) (cp0_3 : Nat) (hcp0_3 : p0.fRaft.fMarks.length ≤ cp0_3) (fp0_3 : ∀ W, (Sta.mk w0 M H R φ).ok W → Cl W Ap0_3 (p0.fRaft.fMarks.flatMap GMark.enc)) (p1 : ByteArray) (r : Int) (hm : m_raft_state_change p0 p1 = some r) :
    Cn Try.prog 43 #[.agg #[.int .i64 p0.fRaft.fMe, .int .i64 p0.fRaft.fRole, .int .i64 p0.fRaft.fLeader, .int .i64 p0.fRaft.fCommit, .int .i64 p0.fRaft.fLeft, .int .i64 p0.fRaft.fHard.fTerm, .int .i64 p0.fRaft.fHard.fVote, .slice Ap0_0 p0.fRaft.fHard.fVoters.length cp0_0, .string p0.fRaft.fHard.fSnap, .int .i64 p0.fRaft.fHard.fLog.fBase, .int .i64 p0.fRaft.fHard.fLog.fBaseTerm, .slice Ap0_1 p0.fRaft.fHard.fLog.fEntries.length cp0_1, .slice Ap0_2 p0.fRaft.fVotes.length cp0_2, .slice Ap0_3 p0.fRaft.fMarks.length cp0_3], .string p1] ⟨w0, M, H, R, φ⟩ (fun x : Unit => .int .i64 r) (fun x => True) (fun x => ⟨w0, M, H, R, φ⟩) := by
 unfold m_raft_state_change at hm
 refine cn_intro (fn := Try.f43) (N := 83) Try.func43 rfl Try.ntmps43 rfl <| c_seq <| c_region ?_
 refine g_e rfl (e_box 100020 rfl) (fun g1 _ => ?_)
 refine g_v rfl r_assign <| g_nil <| d_then <| c_seq <| c_region <| g_v rfl r_move ?_
 replace hm := bnd hm
 obtain ⟨⟨x2, x3⟩, hx4, hm⟩ := hm
 refine g_cn ⟨w0, M, _, _, φ⟩ (fun _ h => h) Try.call54 rfl rfl (c_plog_List p1 _ hx4) (fun ⟨A5, c6⟩ hc6 => ?_)
 refine g_sta _ (fun W h => (ok_frontR (t := 2000) (t' := 100150) h rfl)) <| g_v rfl r_move <| g_v rfl (r_extract rfl rfl) <| g_v rfl (r_extract rfl rfl) <| g_v rfl r_assign <| g_v rfl r_assign <| g_nil <| d_then ?_
 refine c_flat [(2, .pointer (some ⟨g1, 0, none⟩)), (5, .slice A5 x2.length c6), (6, .bool x3)] ⟨rfl, rfl, rfl, trivial⟩ (fun u => ?_)
 refine c_sta ⟨w0, M, (100020, g1, .cells #[.int .i64 p0.fRaft.fMe, .int .i64 p0.fRaft.fRole, .int .i64 p0.fRaft.fLeader, .int .i64 p0.fRaft.fCommit, .int .i64 p0.fRaft.fLeft, .int .i64 p0.fRaft.fHard.fTerm, .int .i64 p0.fRaft.fHard.fVote, .slice Ap0_0 p0.fRaft.fHard.fVoters.length cp0_0, .string p0.fRaft.fHard.fSnap, .int .i64 p0.fRaft.fHard.fLog.fBase, .int .i64 p0.fRaft.fHard.fLog.fBaseTerm, .slice Ap0_1 p0.fRaft.fHard.fLog.fEntries.length cp0_1, .slice Ap0_2 p0.fRaft.fVotes.length cp0_2, .slice Ap0_3 p0.fRaft.fMarks.length cp0_3] 84 (0, 0)) :: H, (100150, ⟨.slice A5 x2.length c6, 3, 1, x2.length, x2.flatMap (fun x : Int => [Value.int .i64 x])⟩) :: R, φ⟩ (fun _ h => h) <| c_seq <| c_region <| g_v rfl (r_loadA (tag := 100020) rfl rfl Try.isAgg84 Try.sizeOf84 rfl rfl) ?_
 replace hm := bnd hm
 obtain ⟨x9, hx10, hm⟩ := hm
 refine g_cn ⟨w0, M, _, _, φ⟩ (fun _ h => h) Try.call40 rfl rfl (c_raft_state_voters p0 Ap0_0 cp0_0 hcp0_0 (fun W hS => fp0_0 W (ok_pre (H1 := [_]) (R1 := [_]) hS (fun W h => h))) Ap0_1 cp0_1 hcp0_1 (fun W hS => fp0_1 W (ok_pre (H1 := [_]) (R1 := [_]) hS (fun W h => h))) Ap0_2 cp0_2 hcp0_2 (fun W hS => fp0_2 W (ok_pre (H1 := [_]) (R1 := [_]) hS (fun W h => h))) Ap0_3 cp0_3 hcp0_3 (fun W hS => fp0_3 W (ok_pre (H1 := [_]) (R1 := [_]) hS (fun W h => h))) _ hx10) (fun ⟨A11, c12⟩ hc12 => ?_)
 refine g_sta _ (fun W h => (ok_frontR (t := 2000) (t' := 100190) h rfl)) <| g_v rfl r_assign <| g_nil <| d_then <| c_seq <| c_region <| g_v rfl r_assign <| g_nil <| d_then <| c_seq ?_
 refine c_seq <| c_region <| g_v rfl r_move <| g_nil <| d_then ?_
 refine c_cut (ι := Int) [2, 5, 6, 8] (fun i32 => [(8, .int .i64 i32)]) (fun i32 => ⟨w0, M, (100020, g1, .cells #[.int .i64 p0.fRaft.fMe, .int .i64 p0.fRaft.fRole, .int .i64 p0.fRaft.fLeader, .int .i64 p0.fRaft.fCommit, .int .i64 p0.fRaft.fLeft, .int .i64 p0.fRaft.fHard.fTerm, .int .i64 p0.fRaft.fHard.fVote, .slice Ap0_0 p0.fRaft.fHard.fVoters.length cp0_0, .string p0.fRaft.fHard.fSnap, .int .i64 p0.fRaft.fHard.fLog.fBase, .int .i64 p0.fRaft.fHard.fLog.fBaseTerm, .slice Ap0_1 p0.fRaft.fHard.fLog.fEntries.length cp0_1, .slice Ap0_2 p0.fRaft.fVotes.length cp0_2, .slice Ap0_3 p0.fRaft.fMarks.length cp0_3] 84 (0, 0)) :: H, (100150, ⟨.slice A5 x2.length c6, 3, 1, x2.length, x2.flatMap (fun x : Int => [Value.int .i64 x])⟩) :: R, φ⟩) (fun i32 => m_raft_state_change_j1 x3 x2 p0 i32 = some r) ?_ (fun i32 u hm => ?_)
 ·
  refine c_block ?_
  replace hm := bnd hm
  obtain ⟨out2, hl2, hr2⟩ := hm
  obtain ⟨n68', hl2⟩ := loop_lp hl2
  refine c_loopU (ι := Nat × Int × Int) [2, 5, 6, 7, 8, 20] (fun ⟨n68, i58, i59⟩ => [(8, .int .i64 i58), (20, .int .i64 i59)]) (fun ⟨n68, i58, i59⟩ => ⟨w0, M, (100020, g1, .cells #[.int .i64 p0.fRaft.fMe, .int .i64 p0.fRaft.fRole, .int .i64 p0.fRaft.fLeader, .int .i64 p0.fRaft.fCommit, .int .i64 p0.fRaft.fLeft, .int .i64 p0.fRaft.fHard.fTerm, .int .i64 p0.fRaft.fHard.fVote, .slice Ap0_0 p0.fRaft.fHard.fVoters.length cp0_0, .string p0.fRaft.fHard.fSnap, .int .i64 p0.fRaft.fHard.fLog.fBase, .int .i64 p0.fRaft.fHard.fLog.fBaseTerm, .slice Ap0_1 p0.fRaft.fHard.fLog.fEntries.length cp0_1, .slice Ap0_2 p0.fRaft.fVotes.length cp0_2, .slice Ap0_3 p0.fRaft.fMarks.length cp0_3] 84 (0, 0)) :: H, (100190, ⟨.slice A11 x9.length c12, 3, 1, x9.length, x9.flatMap (fun x : Int => [Value.int .i64 x])⟩) :: (100150, ⟨.slice A5 x2.length c6, 3, 1, x2.length, x2.flatMap (fun x : Int => [Value.int .i64 x])⟩) :: R, φ⟩) (fun ⟨n68, i58, i59⟩ => Lp (fun s => m_raft_state_change_s2 x2 x9 s.1 s.2) n68 (i58, i59) out2) (fun ⟨n68, i58, i59⟩ => n68) (n68', 0, 0) hl2 ⟨rfl, rfl, rfl, rfl, rfl, rfl, trivial⟩ (fun W h => h.phi (fun W hφ => hφ)) (fun ⟨n68, i58, i59⟩ u hlp => ?_)
  obtain ⟨o2, hm, hnx2⟩ := lp_step hlp
  clear hlp
  replace hm : m_raft_state_change_s2 x2 x9 i58 i59 = some o2 := hm
  unfold m_raft_state_change_s2 at hm
  refine c_flat [(2, .pointer (some ⟨g1, 0, none⟩)), (5, .slice A5 x2.length c6), (6, .bool x3), (7, .slice A11 x9.length c12), (8, .int .i64 i58), (20, .int .i64 i59)] ⟨rfl, rfl, rfl, rfl, rfl, rfl, trivial⟩ (fun u => ?_)
  refine c_sta ⟨w0, M, (100020, g1, .cells #[.int .i64 p0.fRaft.fMe, .int .i64 p0.fRaft.fRole, .int .i64 p0.fRaft.fLeader, .int .i64 p0.fRaft.fCommit, .int .i64 p0.fRaft.fLeft, .int .i64 p0.fRaft.fHard.fTerm, .int .i64 p0.fRaft.fHard.fVote, .slice Ap0_0 p0.fRaft.fHard.fVoters.length cp0_0, .string p0.fRaft.fHard.fSnap, .int .i64 p0.fRaft.fHard.fLog.fBase, .int .i64 p0.fRaft.fHard.fLog.fBaseTerm, .slice Ap0_1 p0.fRaft.fHard.fLog.fEntries.length cp0_1, .slice Ap0_2 p0.fRaft.fVotes.length cp0_2, .slice Ap0_3 p0.fRaft.fMarks.length cp0_3] 84 (0, 0)) :: H, (100190, ⟨.slice A11 x9.length c12, 3, 1, x9.length, x9.flatMap (fun x : Int => [Value.int .i64 x])⟩) :: (100150, ⟨.slice A5 x2.length c6, 3, 1, x2.length, x2.flatMap (fun x : Int => [Value.int .i64 x])⟩) :: R, φ⟩ (fun _ h => h) <| c_seq <| c_region <| g_v rfl (r_lss rfl rfl) <| g_nil <| d_then <| c_seq ?_
  refine c_cond rfl (fun h69 => ?_) (fun h69 => ?_)
  ·
   replace hm := ite_t hm (of_decide_eq_true h69)
   refine c_skip <| d_then <| c_seq <| c_block <| c_seq <| c_region <| g_v rfl r_move <| g_v rfl r_assign <| g_nil <| d_then ?_
   refine c_seq <| c_region <| g_v rfl r_move <| g_v rfl r_move ?_
   replace hm := bnd hm
   obtain ⟨x70, hx71, hm⟩ := hm
   refine g_cn ⟨w0, M, _, _, φ⟩ (fun _ h => h) Try.call35 rfl rfl (c_slices_Contains_35 x2 A5 c6 hc6 (fun W hS => rowCl (tag := 100150) rfl W hS) i59 _ hx71) (fun _ _ => ?_)
   refine g_v rfl r_move <| g_v rfl r_move ?_
   replace hm := bnd hm
   obtain ⟨x72, hx73, hm⟩ := hm
   refine g_cn ⟨w0, M, _, _, φ⟩ (fun _ h => h) Try.call35 rfl rfl (c_slices_Contains_35 x9 A11 c12 hc12 (fun W hS => rowCl (tag := 100190) rfl W hS) i59 _ hx73) (fun _ _ => ?_)
   refine g_v rfl (r_neqBo Try.underlying4 rfl rfl) <| g_nil <| d_then ?_
   refine c_flat [(2, .pointer (some ⟨g1, 0, none⟩)), (5, .slice A5 x2.length c6), (6, .bool x3), (7, .slice A11 x9.length c12), (8, .int .i64 i58), (20, .int .i64 i59), (29, .bool (!(x70 == x72)))] ⟨rfl, rfl, rfl, rfl, rfl, rfl, rfl, trivial⟩ (fun u => ?_)
   refine c_cond rfl (fun h74 => ?_) (fun h74 => ?_)
   ·
    replace hm := ite_t hm h74
    refine c_region <| g_v rfl r_move <| g_v rfl (r_add rfl rfl rfl) <| g_v rfl r_assign <| g_nil <| d_normal_block <| d_then <| c_region <| g_v rfl (r_add rfl rfl rfl) <| g_v rfl r_move ?_
    refine g_nil ?_
    obtain ⟨n75, hn75, hlp⟩ := nx_inl hm hnx2
    exact d_round (n75, w64 (i58 + 1), w64 (i59 + 1)) hlp hn75 ⟨rfl, rfl, rfl, rfl, rfl, rfl, trivial⟩ (fun W h => h.phi (fun W hφ => hφ))
   ·
    replace hm := ite_f hm (bool_nt h74)
    refine c_skip <| d_normal_block <| d_then <| c_region <| g_v rfl (r_add rfl rfl rfl) <| g_v rfl r_move <| g_nil ?_
    obtain ⟨n76, hn76, hlp⟩ := nx_inl hm hnx2
    exact d_round (n76, i58, w64 (i59 + 1)) hlp hn76 ⟨rfl, rfl, rfl, rfl, rfl, rfl, trivial⟩ (fun W h => h.phi (fun W hφ => hφ))
  ·
   replace hm := ite_f hm (of_decide_eq_false h69)
   refine c_exit <| d_exit_then <| d_exit_then <| d_exit_block ?_
   replace hm := nx_out (C := (fun e : Int => m_raft_state_change_j1 x3 x2 p0 e = some r)) hm hnx2 hr2
   exact d_round i58 hm Nat.zero_lt_one ⟨rfl, rfl, rfl, rfl, trivial⟩ (fun W h => (h.dropR (t := 100190) rfl).phi (fun W hφ => hφ))
 ·
  unfold m_raft_state_change_j1 at hm
  refine d_flat [(2, .pointer (some ⟨g1, 0, none⟩)), (5, .slice A5 x2.length c6), (6, .bool x3), (8, .int .i64 i32)] ⟨rfl, rfl, rfl, rfl, trivial⟩ (fun u => ?_)
  refine d_then <| c_seq <| c_seq <| c_region <| g_v rfl r_move <| g_v rfl (r_not rfl) <| g_v rfl r_move ?_
  refine g_if rfl rfl rfl rfl rfl (fun h33 => ?_) (fun h33 => ?_)
  ·
   have h33' : x3 = true := by revert h33; cases x3 <;> simp
   replace hm := ite_t hm h33'
   refine g_v rfl r_move <| g_do rfl rfl rfl rfl rfl h33 <| g_v rfl (r_field (n := 0) Try.underlying84 rfl Try.sizeOf43 rfl rfl) <| g_do rfl rfl rfl rfl rfl h33 <| g_v rfl (r_field (n := 0) Try.underlying43 rfl Try.sizeOf3 rfl rfl) <| g_do rfl rfl rfl rfl rfl h33 <| g_v rfl (r_load (tag := 100020) rfl rfl rfl Try.isAgg3) <| g_do rfl rfl rfl rfl rfl h33 ?_
   replace hm := bnd hm
   obtain ⟨x34, hx35, hm⟩ := hm
   refine g_cn ⟨w0, M, _, _, φ⟩ (fun _ h => h) Try.call35 rfl rfl (c_slices_Contains_35 x2 A5 c6 hc6 (fun W hS => rowCl (tag := 100150) rfl W hS) p0.fRaft.fMe _ hx35) (fun _ _ => ?_)
   refine g_do rfl rfl rfl rfl rfl h33 <| g_v rfl (r_not rfl) <| g_v rfl (r_pick0 rfl h33) <| g_v rfl r_move ?_
   refine g_if rfl rfl rfl rfl rfl (fun h36 => ?_) (fun h36 => ?_)
   ·
    have h36' : x34 = true := by revert h36; cases x34 <;> simp
    replace hm := ite_t hm h36'
    refine g_v rfl r_move <| g_do rfl rfl rfl rfl rfl h36 <| g_v rfl (r_neq rfl rfl) <| g_v rfl (r_pick0 rfl h36) <| g_nil <| d_then ?_
    refine c_flat [(2, .pointer (some ⟨g1, 0, none⟩)), (46, .bool (decide (i32 ≠ 1)))] ⟨rfl, rfl, trivial⟩ (fun u => ?_)
    refine c_cond rfl (fun h37 => ?_) (fun h37 => ?_)
    ·
     replace hm := ite_t hm (of_decide_eq_true h37)
     refine c_seq <| c_region <| g_v rfl r_assign <| g_nil <| d_then <| c_ret <| d_ret_then ?_
     replace hm := Option.some.inj hm
     subst hm
     refine d_retC () Try.results43 ?_ trivial (fun W h => ok_pre (H1 := [_]) (R1 := [_]) h (fun W hφ => hφ)) (.inr rfl)
     refine res_tmp <| res_nil ?_
     exact rfl
    ·
     replace hm := ite_f hm (of_decide_eq_false h37)
     refine c_skip <| d_then <| c_seq <| c_region <| g_v rfl (r_field (n := 0) Try.underlying84 rfl Try.sizeOf43 rfl rfl) <| g_v rfl (r_field (n := 5) Try.underlying43 rfl Try.sizeOf40 rfl rfl) <| g_v rfl (r_field (n := 9) Try.underlying40 rfl Try.sizeOf38 rfl rfl) <| g_v rfl (r_loadA (tag := 100020) rfl rfl Try.isAgg38 Try.sizeOf38 rfl rfl) <| g_v rfl (r_field (n := 0) Try.underlying84 rfl Try.sizeOf43 rfl rfl) <| g_v rfl (r_field (n := 3) Try.underlying43 rfl Try.sizeOf3 rfl rfl) ?_
     refine g_v rfl (r_load (tag := 100020) rfl rfl rfl Try.isAgg3) ?_
     replace hm := bnd hm
     obtain ⟨⟨x38, x39⟩, hx40, hm⟩ := hm
     refine g_cn ⟨w0, M, _, _, φ⟩ (fun _ h => h) Try.call67 rfl rfl (c_plog_Term p0.fRaft.fHard.fLog Ap0_1 cp0_1 hcp0_1 (fun W hS => fp0_1 W (ok_pre (H1 := [_]) (R1 := [_]) hS (fun W h => h))) p0.fRaft.fCommit _ hx40) (fun _ _ => ?_)
     refine g_v rfl r_move <| g_v rfl (r_extract rfl rfl) <| g_v rfl (r_extract rfl rfl) <| g_v rfl r_assign <| g_v rfl r_assign <| g_nil <| d_then ?_
     refine c_flat [(2, .pointer (some ⟨g1, 0, none⟩)), (10, .int .i64 x38)] ⟨rfl, rfl, trivial⟩ (fun u => ?_)
     refine c_seq <| c_region <| g_v rfl (r_field (n := 0) Try.underlying84 rfl Try.sizeOf43 rfl rfl) <| g_v rfl (r_field (n := 5) Try.underlying43 rfl Try.sizeOf40 rfl rfl) <| g_v rfl (r_field (n := 9) Try.underlying40 rfl Try.sizeOf38 rfl rfl) <| g_v rfl (r_loadA (tag := 100020) rfl rfl Try.isAgg38 Try.sizeOf38 rfl rfl) <| g_v rfl (r_field (n := 0) Try.underlying84 rfl Try.sizeOf43 rfl rfl) <| g_v rfl (r_field (n := 3) Try.underlying43 rfl Try.sizeOf3 rfl rfl) <| g_v rfl (r_load (tag := 100020) rfl rfl rfl Try.isAgg3) <| g_v rfl (r_add rfl rfl rfl) ?_
     refine g_v rfl (r_field (n := 0) Try.underlying84 rfl Try.sizeOf43 rfl rfl) <| g_v rfl (r_field (n := 5) Try.underlying43 rfl Try.sizeOf40 rfl rfl) <| g_v rfl (r_field (n := 9) Try.underlying40 rfl Try.sizeOf38 rfl rfl) <| g_v rfl (r_field (n := 11) Try.underlying38 rfl Try.sizeOf22 rfl rfl) <| g_v rfl (r_load (tag := 100020) rfl rfl rfl Try.isAgg22) <| g_v rfl (r_lenL Try.underlying22 rfl) ?_
     replace hm := bnd hm
     obtain ⟨x42, hx43, hm⟩ := hm
     refine g_cn ⟨w0, M, _, _, φ⟩ (fun _ h => h) Try.call69 rfl rfl (c_plog_Slice p0.fRaft.fHard.fLog Ap0_1 cp0_1 hcp0_1 (fun W hS => fp0_1 W (ok_pre (H1 := [_]) (R1 := [_]) hS (fun W h => h))) (w64 (p0.fRaft.fCommit + 1)) (p0.fRaft.fHard.fLog.fEntries.length : Int) _ hx43) (fun ⟨A44, c45⟩ hc45 => ?_)
     refine g_sta _ (fun W h => (ok_frontR (t := 2000) (t' := 100720) h rfl)) ?_
     replace hm := bnd hm
     obtain ⟨x47, hx48, hm⟩ := hm
     refine g_cn ⟨w0, M, _, _, φ⟩ (fun _ h => h) Try.call68 rfl rfl (c_slices_ContainsFunc_68 x42 A44 c45 hc45 (fun W hS => rowCl (tag := 100720) rfl W hS) _ hx48) (fun _ _ => ?_)
     refine g_v rfl r_assign <| g_nil <| d_then ?_
     refine c_flat [(2, .pointer (some ⟨g1, 0, none⟩)), (10, .int .i64 x38), (12, .bool x47)] ⟨rfl, rfl, rfl, trivial⟩ (fun u => ?_)
     refine c_sta ⟨w0, M, (100020, g1, .cells #[.int .i64 p0.fRaft.fMe, .int .i64 p0.fRaft.fRole, .int .i64 p0.fRaft.fLeader, .int .i64 p0.fRaft.fCommit, .int .i64 p0.fRaft.fLeft, .int .i64 p0.fRaft.fHard.fTerm, .int .i64 p0.fRaft.fHard.fVote, .slice Ap0_0 p0.fRaft.fHard.fVoters.length cp0_0, .string p0.fRaft.fHard.fSnap, .int .i64 p0.fRaft.fHard.fLog.fBase, .int .i64 p0.fRaft.fHard.fLog.fBaseTerm, .slice Ap0_1 p0.fRaft.fHard.fLog.fEntries.length cp0_1, .slice Ap0_2 p0.fRaft.fVotes.length cp0_2, .slice Ap0_3 p0.fRaft.fMarks.length cp0_3] 84 (0, 0)) :: H, (100720, ⟨.slice A44 x42.length c45, 36, 3, x42.length, x42.flatMap GEntry.enc⟩) :: (100150, ⟨.slice A5 x2.length c6, 3, 1, x2.length, x2.flatMap (fun x : Int => [Value.int .i64 x])⟩) :: R, φ⟩ (fun _ h => h) <| c_seq <| c_seq <| c_region <| g_v rfl r_move <| g_v rfl r_move ?_
     refine g_if rfl rfl rfl rfl rfl (fun h49 => ?_) (fun h49 => ?_)
     ·
      replace hm := ite_f hm (bool_nt h49)
      refine g_v rfl r_move <| g_do rfl rfl rfl rfl rfl h49 <| g_v rfl (r_field (n := 0) Try.underlying84 rfl Try.sizeOf43 rfl rfl) <| g_do rfl rfl rfl rfl rfl h49 <| g_v rfl (r_field (n := 5) Try.underlying43 rfl Try.sizeOf40 rfl rfl) <| g_do rfl rfl rfl rfl rfl h49 <| g_v rfl (r_field (n := 5) Try.underlying40 rfl Try.sizeOf3 rfl rfl) <| g_do rfl rfl rfl rfl rfl h49 <| g_v rfl (r_load (tag := 100020) rfl rfl rfl Try.isAgg3) <| g_do rfl rfl rfl rfl rfl h49 ?_
      refine g_v rfl (r_neq rfl rfl) <| g_v rfl (r_pick0 rfl h49) <| g_nil <| d_then ?_
      refine c_flat [(82, .bool (decide (x38 ≠ p0.fRaft.fHard.fTerm)))] ⟨rfl, trivial⟩ (fun u => ?_)
      refine c_cond rfl (fun h50 => ?_) (fun h50 => ?_)
      ·
       replace hm := ite_t hm (of_decide_eq_true h50)
       refine c_seq <| c_region <| g_v rfl r_assign <| g_nil <| d_then <| c_ret <| d_ret_then ?_
       replace hm := Option.some.inj hm
       subst hm
       refine d_retC () Try.results43 ?_ trivial (fun W h => ok_pre (H1 := [_]) (R1 := [_, _]) h (fun W hφ => hφ)) (.inr rfl)
       refine res_tmp <| res_nil ?_
       exact rfl
      ·
       replace hm := ite_f hm (of_decide_eq_false h50)
       refine c_skip <| d_then <| c_seq <| c_region <| g_v rfl r_assign <| g_nil <| d_then <| c_ret ?_
       replace hm := Option.some.inj hm
       subst hm
       refine d_retC () Try.results43 ?_ trivial (fun W h => ok_pre (H1 := [_]) (R1 := [_, _]) h (fun W hφ => hφ)) (.inr rfl)
       refine res_tmp <| res_nil ?_
       exact rfl
     ·
      replace hm := ite_t hm h49
      refine g_no rfl rfl rfl rfl rfl h49 <| g_no rfl rfl rfl rfl rfl h49 <| g_no rfl rfl rfl rfl rfl h49 <| g_no rfl rfl rfl rfl rfl h49 <| g_no rfl rfl rfl rfl rfl h49 <| g_v rfl (r_pick1 rfl h49) <| g_nil <| d_then <| c_cond1 rfl rfl <| c_seq ?_
      refine c_region <| g_v rfl r_assign <| g_nil <| d_then <| c_ret <| d_ret_then ?_
      replace hm := Option.some.inj hm
      subst hm
      refine d_retC () Try.results43 ?_ trivial (fun W h => ok_pre (H1 := [_]) (R1 := [_, _]) h (fun W hφ => hφ)) (.inr rfl)
      refine res_tmp <| res_nil ?_
      exact rfl
   ·
    have h36' : x34 = false := by revert h36; cases x34 <;> simp
    replace hm := ite_f hm (bool_nt h36')
    refine g_no rfl rfl rfl rfl rfl h36 <| g_v rfl (r_pick1 rfl h36) <| g_nil <| d_then ?_
    refine c_flat [(2, .pointer (some ⟨g1, 0, none⟩)), (46, .bool true)] ⟨rfl, rfl, trivial⟩ (fun u => ?_)
    refine c_cond1 rfl rfl <| c_seq <| c_region <| g_v rfl r_assign <| g_nil <| d_then <| c_ret <| d_ret_then ?_
    replace hm := Option.some.inj hm
    subst hm
    refine d_retC () Try.results43 ?_ trivial (fun W h => ok_pre (H1 := [_]) (R1 := [_]) h (fun W hφ => hφ)) (.inr rfl)
    refine res_tmp <| res_nil ?_
    exact rfl
  ·
   have h33' : x3 = false := by revert h33; cases x3 <;> simp
   replace hm := ite_f hm (bool_nt h33')
   refine g_no rfl rfl rfl rfl rfl h33 <| g_no rfl rfl rfl rfl rfl h33 <| g_no rfl rfl rfl rfl rfl h33 <| g_no rfl rfl rfl rfl rfl h33 <| g_no rfl rfl rfl rfl rfl h33 <| g_v rfl (r_pick1 rfl h33) <| g_v rfl r_move <| g_no rfl rfl rfl rfl rfl rfl <| g_no rfl rfl rfl rfl rfl rfl <| g_v rfl (r_pick1 rfl rfl) ?_
   refine g_nil <| d_then <| c_cond1 rfl rfl <| c_seq <| c_region <| g_v rfl r_assign <| g_nil <| d_then <| c_ret <| d_ret_then ?_
   replace hm := Option.some.inj hm
   subst hm
   refine d_retC () Try.results43 ?_ trivial (fun W h => ok_pre (H1 := [_]) (R1 := [_]) h (fun W hφ => hφ)) (.inr rfl)
   refine res_tmp <| res_nil ?_
   exact rfl
theorem bld36_24 (z0 : Int) (z1 : Int) (z2 : ByteArray) : ∀ W, (Instr.build 36 #[(0, .int .i64 z0), (1, .int .i64 z1), (2, .string z2)]).run Try.prog W = .ok (.agg #[.int .i64 z0, .int .i64 z1, .string z2]) W := fun _ => by kernel_rfl
noncomputable def m_raft_Propose_j3 (p0 : GRaft) (x20 : GLog) (x4 : Int) (l32 : List GMark) : Option (GRaft × (List GNote) × Int × Int) :=
  (m_raft_state_commit (⟨(⟨p0.fMe, p0.fRole, p0.fLeader, p0.fCommit, p0.fLeft, (⟨p0.fHard.fTerm, p0.fHard.fVote, p0.fHard.fVoters, p0.fHard.fSnap, x20⟩ : GHard), p0.fVotes, l32⟩ : GRaft)⟩ : Graft_state)).bind fun x37 =>
  (m_raft_state_all x37).bind fun x68 =>
  some (x37.fRaft, x68, w64 (x4 + 1), 0)
noncomputable def m_raft_Propose_j2 (p0 : GRaft) (p1 : Int) (p2 : ByteArray) (x4 : Int) : Option (GRaft × (List GNote) × Int × Int) :=
  (m_plog_Add p0.fHard.fLog [(⟨p0.fHard.fTerm, p1, p2⟩ : GEntry)]).bind fun x20 =>
  if p1 = 1 then
    (m_raft_state_marks (⟨(⟨p0.fMe, p0.fRole, p0.fLeader, p0.fCommit, p0.fLeft, (⟨p0.fHard.fTerm, p0.fHard.fVote, p0.fHard.fVoters, p0.fHard.fSnap, x20⟩ : GHard), p0.fVotes, p0.fMarks⟩ : GRaft)⟩ : Graft_state) (w64 (x4 + 1))).bind fun x77 =>
    m_raft_Propose_j3 p0 x20 x4 x77
  else
    m_raft_Propose_j3 p0 x20 x4 p0.fMarks
noncomputable def m_raft_Propose_j1 (p1 : Int) (p0 : GRaft) (p2 : ByteArray) (x4 : Int) : Option (GRaft × (List GNote) × Int × Int) :=
  if p1 = 1 then
    (m_raft_state_change (⟨p0⟩ : Graft_state) p2).bind fun x85 =>
    if x85 ≠ 0 then
      some (p0, ([] : List GNote), 0, x85)
    else
      m_raft_Propose_j2 p0 p1 p2 x4
  else
    m_raft_Propose_j2 p0 p1 p2 x4
noncomputable def m_raft_Propose (p0 : GRaft) (p1 : Int) (p2 : ByteArray) : Option (GRaft × (List GNote) × Int × Int) :=
  (m_raft_state_last (⟨p0⟩ : Graft_state)).bind fun (z7 : Int × Int) =>
  if p0.fRole ≠ 2 then
    some (p0, ([] : List GNote), 0, 17)
  else
    if 8000 < (p2.size : Int) then
      some (p0, ([] : List GNote), 0, 11)
    else
      if 1099511627776 ≤ z7.1 then
        some (p0, ([] : List GNote), 0, 11)
      else
        if p1 ≠ 0 then
          if p1 ≠ 1 then
            some (p0, ([] : List GNote), 0, 1)
          else
            m_raft_Propose_j1 p1 p0 p2 z7.1
        else
          m_raft_Propose_j1 p1 p0 p2 z7.1
theorem c_raft_Propose {w0 : World} {M : Nat → Prop} {H : List (Nat × Nat × Obj)} {R : List (Nat × Row)} {φ : World → Prop} (p0 : GRaft) (Ap0_0 : Option Addr) (cp0_0 : Nat) (hcp0_0 : p0.fHard.fVoters.length ≤ cp0_0) (fp0_0 : ∀ W, φ W → Cl W Ap0_0 (p0.fHard.fVoters.flatMap (fun x : Int => [Value.int .i64 x]))) (Ap0_1 : Option Addr) (cp0_1 : Nat) (hcp0_1 : p0.fHard.fLog.fEntries.length ≤ cp0_1) (fp0_1 : ∀ W, φ W → Cl W Ap0_1 (p0.fHard.fLog.fEntries.flatMap GEntry.enc)) (Ap0_2 : Option Addr) (cp0_2 : Nat) (hcp0_2 : p0.fVotes.length ≤ cp0_2) (fp0_2 : ∀ W, φ W → Cl W Ap0_2 (p0.fVotes.flatMap (fun x : Int => [Value.int .i64 x]))) (Ap0_3 : Option Addr) (cp0_3 : Nat) (hcp0_3 : p0.fMarks.length ≤ cp0_3) (fp0_3 : ∀ W, φ W → Cl W Ap0_3 (p0.fMarks.flatMap GMark.enc)) (p1 : Int) (p2 : ByteArray) (r : GRaft × (List GNote) × Int × Int) (hm : m_raft_Propose p0 p1 p2 = some r) :
    Cn Try.prog 19 #[.agg #[.int .i64 p0.fMe, .int .i64 p0.fRole, .int .i64 p0.fLeader, .int .i64 p0.fCommit, .int .i64 p0.fLeft, .int .i64 p0.fHard.fTerm, .int .i64 p0.fHard.fVote, .slice Ap0_0 p0.fHard.fVoters.length cp0_0, .string p0.fHard.fSnap, .int .i64 p0.fHard.fLog.fBase, .int .i64 p0.fHard.fLog.fBaseTerm, .slice Ap0_1 p0.fHard.fLog.fEntries.length cp0_1, .slice Ap0_2 p0.fVotes.length cp0_2, .slice Ap0_3 p0.fMarks.length cp0_3], .int .i64 p1, .string p2] ⟨w0, M, H, R, φ⟩ (fun x : Option Addr × Nat × Option Addr × Nat × Option Addr × Nat × Option Addr × Nat × Option Addr × Nat × List GNoteP => .tuple #[.agg #[.int .i64 r.1.fMe, .int .i64 r.1.fRole, .int .i64 r.1.fLeader, .int .i64 r.1.fCommit, .int .i64 r.1.fLeft, .int .i64 r.1.fHard.fTerm, .int .i64 r.1.fHard.fVote, .slice x.1 r.1.fHard.fVoters.length x.2.1, .string r.1.fHard.fSnap, .int .i64 r.1.fHard.fLog.fBase, .int .i64 r.1.fHard.fLog.fBaseTerm, .slice x.2.2.1 r.1.fHard.fLog.fEntries.length x.2.2.2.1, .slice x.2.2.2.2.1 r.1.fVotes.length x.2.2.2.2.2.1, .slice x.2.2.2.2.2.2.1 r.1.fMarks.length x.2.2.2.2.2.2.2.1], .slice x.2.2.2.2.2.2.2.2.1 r.2.1.length x.2.2.2.2.2.2.2.2.2.1, .int .i64 r.2.2.1, .int .i64 r.2.2.2]) (fun x => r.1.fHard.fVoters.length ≤ x.2.1 ∧ r.1.fHard.fLog.fEntries.length ≤ x.2.2.2.1 ∧ r.1.fVotes.length ≤ x.2.2.2.2.2.1 ∧ r.1.fMarks.length ≤ x.2.2.2.2.2.2.2.1 ∧ (DOk GNote.capP r.2.1 x.2.2.2.2.2.2.2.2.2.2 ∧ r.2.1.length ≤ x.2.2.2.2.2.2.2.2.2.1)) (fun x => ⟨w0, M, H, (2004, ⟨.slice x.2.2.2.2.2.2.2.2.1 r.2.1.length x.2.2.2.2.2.2.2.2.2.1, 25, 11, r.2.1.length, (r.2.1.zip x.2.2.2.2.2.2.2.2.2.2).flatMap GNote.encP⟩) :: R, fun W => φ W ∧ Cl W x.1 (r.1.fHard.fVoters.flatMap (fun x : Int => [Value.int .i64 x])) ∧ Cl W x.2.2.1 (r.1.fHard.fLog.fEntries.flatMap GEntry.enc) ∧ Cl W x.2.2.2.2.1 (r.1.fVotes.flatMap (fun x : Int => [Value.int .i64 x])) ∧ Cl W x.2.2.2.2.2.2.1 (r.1.fMarks.flatMap GMark.enc) ∧ DOwn GNote.ownP r.2.1 x.2.2.2.2.2.2.2.2.2.2 W⟩) := by
 unfold m_raft_Propose at hm
 refine cn_intro (fn := Try.f19) (N := 85) Try.func19 rfl Try.ntmps19 rfl <| c_seq <| c_region ?_
 refine g_e rfl (e_box 100030 rfl) (fun g1 _ => ?_)
 refine g_e rfl (e_alloc 100060 Try.zeroValue43) (fun g2 _ => ?_)
 refine g_v rfl r_assign <| g_v rfl r_assign <| g_v rfl r_assign <| g_nil <| d_then <| c_seq <| c_region <| g_v rfl (r_loadA (tag := 100030) rfl rfl Try.isAgg43 Try.sizeOf43 rfl rfl) <| g_v rfl (r_build _ rfl (bld84_3 _ _ _ _ _ _ _ _ _ _ _ _ _ _ _ _ _ _ _ _ _ _)) ?_
 refine g_e rfl (e_alloc 100100 Try.zeroValue84) (fun g3 _ => ?_)
 refine g_storeL (tag := 100100) rfl rfl rfl rfl Try.sizeOf84 rfl rfl <| g_nil <| d_then ?_
 refine c_flat [(1, .int .i64 p1), (2, .string p2), (3, .pointer (some ⟨g1, 0, none⟩)), (6, .pointer (some ⟨g2, 0, none⟩)), (10, .pointer (some ⟨g3, 0, none⟩))] ⟨rfl, rfl, rfl, rfl, rfl, trivial⟩ (fun u => ?_)
 refine c_sta ⟨w0, M, (100100, g3, .cells #[.int .i64 p0.fMe, .int .i64 p0.fRole, .int .i64 p0.fLeader, .int .i64 p0.fCommit, .int .i64 p0.fLeft, .int .i64 p0.fHard.fTerm, .int .i64 p0.fHard.fVote, .slice Ap0_0 p0.fHard.fVoters.length cp0_0, .string p0.fHard.fSnap, .int .i64 p0.fHard.fLog.fBase, .int .i64 p0.fHard.fLog.fBaseTerm, .slice Ap0_1 p0.fHard.fLog.fEntries.length cp0_1, .slice Ap0_2 p0.fVotes.length cp0_2, .slice Ap0_3 p0.fMarks.length cp0_3] 84 (0, 0)) :: (100060, g2, .cells #[.int .i64 0, .int .i64 0, .int .i64 0, .int .i64 0, .int .i64 0, .int .i64 0, .int .i64 0, .slice none 0 0, .string (⟨#[]⟩ : ByteArray), .int .i64 0, .int .i64 0, .slice none 0 0, .slice none 0 0, .slice none 0 0] 43 (0, 0)) :: (100030, g1, .cells #[.int .i64 p0.fMe, .int .i64 p0.fRole, .int .i64 p0.fLeader, .int .i64 p0.fCommit, .int .i64 p0.fLeft, .int .i64 p0.fHard.fTerm, .int .i64 p0.fHard.fVote, .slice Ap0_0 p0.fHard.fVoters.length cp0_0, .string p0.fHard.fSnap, .int .i64 p0.fHard.fLog.fBase, .int .i64 p0.fHard.fLog.fBaseTerm, .slice Ap0_1 p0.fHard.fLog.fEntries.length cp0_1, .slice Ap0_2 p0.fVotes.length cp0_2, .slice Ap0_3 p0.fMarks.length cp0_3] 43 (0, 0)) :: H, R, φ⟩ (fun _ h => h) <| c_seq <| c_region <| g_v rfl (r_loadA (tag := 100100) rfl rfl Try.isAgg84 Try.sizeOf84 rfl rfl) ?_
 replace hm := bnd hm
 obtain ⟨⟨x4, x5⟩, hx6, hm⟩ := hm
 refine g_cn ⟨w0, M, _, _, φ⟩ (fun _ h => h) Try.call42 rfl rfl (c_raft_state_last (⟨p0⟩ : Graft_state) Ap0_0 cp0_0 hcp0_0 (fun W hS => fp0_0 W hS.now) Ap0_1 cp0_1 hcp0_1 (fun W hS => fp0_1 W hS.now) Ap0_2 cp0_2 hcp0_2 (fun W hS => fp0_2 W hS.now) Ap0_3 cp0_3 hcp0_3 (fun W hS => fp0_3 W hS.now) _ hx6) (fun _ _ => ?_)
 refine g_v rfl r_move <| g_v rfl (r_extract rfl rfl) <| g_v rfl (r_extract rfl rfl) <| g_v rfl r_assign <| g_v rfl r_assign <| g_nil <| d_then <| c_seq ?_
 refine c_cut (ι := Unit) [1, 2, 3, 6, 10, 11] (fun _ => []) (fun _ => ⟨w0, M, (100100, g3, .cells #[.int .i64 p0.fMe, .int .i64 p0.fRole, .int .i64 p0.fLeader, .int .i64 p0.fCommit, .int .i64 p0.fLeft, .int .i64 p0.fHard.fTerm, .int .i64 p0.fHard.fVote, .slice Ap0_0 p0.fHard.fVoters.length cp0_0, .string p0.fHard.fSnap, .int .i64 p0.fHard.fLog.fBase, .int .i64 p0.fHard.fLog.fBaseTerm, .slice Ap0_1 p0.fHard.fLog.fEntries.length cp0_1, .slice Ap0_2 p0.fVotes.length cp0_2, .slice Ap0_3 p0.fMarks.length cp0_3] 84 (0, 0)) :: (100060, g2, .cells #[.int .i64 0, .int .i64 0, .int .i64 0, .int .i64 0, .int .i64 0, .int .i64 0, .int .i64 0, .slice none 0 0, .string (⟨#[]⟩ : ByteArray), .int .i64 0, .int .i64 0, .slice none 0 0, .slice none 0 0, .slice none 0 0] 43 (0, 0)) :: (100030, g1, .cells #[.int .i64 p0.fMe, .int .i64 p0.fRole, .int .i64 p0.fLeader, .int .i64 p0.fCommit, .int .i64 p0.fLeft, .int .i64 p0.fHard.fTerm, .int .i64 p0.fHard.fVote, .slice Ap0_0 p0.fHard.fVoters.length cp0_0, .string p0.fHard.fSnap, .int .i64 p0.fHard.fLog.fBase, .int .i64 p0.fHard.fLog.fBaseTerm, .slice Ap0_1 p0.fHard.fLog.fEntries.length cp0_1, .slice Ap0_2 p0.fVotes.length cp0_2, .slice Ap0_3 p0.fMarks.length cp0_3] 43 (0, 0)) :: H, R, φ⟩) (fun _ => m_raft_Propose_j1 p1 p0 p2 x4 = some r) ?_ (fun _ u hm => ?_)
 ·
  refine c_block <| c_seq <| c_region <| g_v rfl (r_field (n := 0) Try.underlying84 rfl Try.sizeOf43 rfl rfl) <| g_v rfl (r_field (n := 1) Try.underlying43 rfl Try.sizeOf3 rfl rfl) <| g_v rfl (r_load (tag := 100100) rfl rfl rfl Try.isAgg3) <| g_v rfl (r_neq rfl rfl) <| g_v rfl r_assign <| g_nil <| d_then ?_
  refine c_flat [(1, .int .i64 p1), (2, .string p2), (3, .pointer (some ⟨g1, 0, none⟩)), (6, .pointer (some ⟨g2, 0, none⟩)), (10, .pointer (some ⟨g3, 0, none⟩)), (11, .int .i64 x4), (21, .bool (decide (p0.fRole ≠ 2)))] ⟨rfl, rfl, rfl, rfl, rfl, rfl, rfl, trivial⟩ (fun u => ?_)
  refine c_cond rfl (fun h88 => ?_) (fun h88 => ?_)
  ·
   replace hm := ite_t hm (of_decide_eq_true h88)
   refine c_seq <| c_region <| g_v rfl (r_loadA (tag := 100030) rfl rfl Try.isAgg43 Try.sizeOf43 rfl rfl) <| g_storeL (tag := 100060) rfl rfl rfl rfl Try.sizeOf43 rfl rfl <| g_v rfl r_assign <| g_v rfl r_assign <| g_v rfl r_assign <| g_nil <| d_then <| c_ret ?_
   refine d_ret_block <| d_ret_then <| d_ret_then ?_
   replace hm := Option.some.inj hm
   subst hm
   refine d_sta _ (fun W h => nilR h 17 25 11) <| d_sta _ (fun W h => ok_frontR (t := 17) (t' := 2004) h rfl) ?_
   refine d_retC (Ap0_0, cp0_0, Ap0_1, cp0_1, Ap0_2, cp0_2, Ap0_3, cp0_3, none, 0, ([] : List GNoteP)) Try.results19 ?_ ⟨hcp0_0, hcp0_1, hcp0_2, hcp0_3, ⟨DOk.nil, (Nat.le_refl 0)⟩⟩ (fun W h => (((h.dropH (t := 100100) rfl).dropH (t := 100060) rfl).dropH (t := 100030) rfl).phi (fun W hφ => ⟨hφ, (fun W h => fp0_0 W h) W hφ, (fun W h => fp0_1 W h) W hφ, (fun W h => fp0_2 W h) W hφ, (fun W h => fp0_3 W h) W hφ, (fun W h => DOwn.nil) W hφ⟩)) (.inr rfl)
   refine res_agg (tag := 100060) rfl rfl Try.isAgg43 Try.sizeOf43 <| res_tmp <| res_tmp <| res_tmp <| res_nil ?_
   exact rfl
  ·
   replace hm := ite_f hm (of_decide_eq_false h88)
   refine c_seq <| c_region <| g_v rfl r_move <| g_v rfl (r_len Try.underlying9 rfl) <| g_v rfl (r_gtr rfl rfl) <| g_v rfl r_move ?_
   refine g_if rfl rfl rfl rfl rfl (fun h89 => ?_) (fun h89 => ?_)
   ·
    replace hm := ite_f hm (of_decide_eq_false h89)
    refine g_v rfl r_move <| g_do rfl rfl rfl rfl rfl h89 <| g_v rfl (r_geq rfl rfl) <| g_v rfl (r_pick0 rfl h89) <| g_v rfl r_assign <| g_nil <| d_then ?_
    refine c_cond rfl (fun h90 => ?_) (fun h90 => ?_)
    ·
     replace hm := ite_t hm (of_decide_eq_true h90)
     refine c_seq <| c_region <| g_v rfl (r_loadA (tag := 100030) rfl rfl Try.isAgg43 Try.sizeOf43 rfl rfl) <| g_storeL (tag := 100060) rfl rfl rfl rfl Try.sizeOf43 rfl rfl <| g_v rfl r_assign <| g_v rfl r_assign <| g_v rfl r_assign <| g_nil <| d_then ?_
     refine c_flat [(6, .pointer (some ⟨g2, 0, none⟩)), (7, .slice none 0 0), (8, .int .i64 0), (9, .int .i64 11)] ⟨rfl, rfl, rfl, rfl, trivial⟩ (fun u => ?_)
     refine c_sta ⟨w0, M, (100100, g3, .cells #[.int .i64 p0.fMe, .int .i64 p0.fRole, .int .i64 p0.fLeader, .int .i64 p0.fCommit, .int .i64 p0.fLeft, .int .i64 p0.fHard.fTerm, .int .i64 p0.fHard.fVote, .slice Ap0_0 p0.fHard.fVoters.length cp0_0, .string p0.fHard.fSnap, .int .i64 p0.fHard.fLog.fBase, .int .i64 p0.fHard.fLog.fBaseTerm, .slice Ap0_1 p0.fHard.fLog.fEntries.length cp0_1, .slice Ap0_2 p0.fVotes.length cp0_2, .slice Ap0_3 p0.fMarks.length cp0_3] 84 (0, 0)) :: (100060, g2, .cells #[.int .i64 p0.fMe, .int .i64 p0.fRole, .int .i64 p0.fLeader, .int .i64 p0.fCommit, .int .i64 p0.fLeft, .int .i64 p0.fHard.fTerm, .int .i64 p0.fHard.fVote, .slice Ap0_0 p0.fHard.fVoters.length cp0_0, .string p0.fHard.fSnap, .int .i64 p0.fHard.fLog.fBase, .int .i64 p0.fHard.fLog.fBaseTerm, .slice Ap0_1 p0.fHard.fLog.fEntries.length cp0_1, .slice Ap0_2 p0.fVotes.length cp0_2, .slice Ap0_3 p0.fMarks.length cp0_3] 43 (0, 0)) :: (100030, g1, .cells #[.int .i64 p0.fMe, .int .i64 p0.fRole, .int .i64 p0.fLeader, .int .i64 p0.fCommit, .int .i64 p0.fLeft, .int .i64 p0.fHard.fTerm, .int .i64 p0.fHard.fVote, .slice Ap0_0 p0.fHard.fVoters.length cp0_0, .string p0.fHard.fSnap, .int .i64 p0.fHard.fLog.fBase, .int .i64 p0.fHard.fLog.fBaseTerm, .slice Ap0_1 p0.fHard.fLog.fEntries.length cp0_1, .slice Ap0_2 p0.fVotes.length cp0_2, .slice Ap0_3 p0.fMarks.length cp0_3] 43 (0, 0)) :: H, R, φ⟩ (fun _ h => h) <| c_ret <| d_ret_block <| d_ret_then <| d_ret_then ?_
     replace hm := Option.some.inj hm
     subst hm
     refine d_sta _ (fun W h => nilR h 18 25 11) <| d_sta _ (fun W h => ok_frontR (t := 18) (t' := 2004) h rfl) ?_
     refine d_retC (Ap0_0, cp0_0, Ap0_1, cp0_1, Ap0_2, cp0_2, Ap0_3, cp0_3, none, 0, ([] : List GNoteP)) Try.results19 ?_ ⟨hcp0_0, hcp0_1, hcp0_2, hcp0_3, ⟨DOk.nil, (Nat.le_refl 0)⟩⟩ (fun W h => (((h.dropH (t := 100100) rfl).dropH (t := 100060) rfl).dropH (t := 100030) rfl).phi (fun W hφ => ⟨hφ, (fun W h => fp0_0 W h) W hφ, (fun W h => fp0_1 W h) W hφ, (fun W h => fp0_2 W h) W hφ, (fun W h => fp0_3 W h) W hφ, (fun W h => DOwn.nil) W hφ⟩)) (.inr rfl)
     refine res_agg (tag := 100060) rfl rfl Try.isAgg43 Try.sizeOf43 <| res_tmp <| res_tmp <| res_tmp <| res_nil ?_
     exact rfl
    ·
     replace hm := ite_f hm (of_decide_eq_false h90)
     refine c_seq <| c_region <| g_v rfl r_move <| g_v rfl (r_neq rfl rfl) <| g_v rfl r_move ?_
     refine g_if rfl rfl rfl rfl rfl (fun h91 => ?_) (fun h91 => ?_)
     ·
      replace hm := ite_t hm (of_decide_eq_true h91)
      refine g_v rfl r_move <| g_do rfl rfl rfl rfl rfl h91 <| g_v rfl (r_neq rfl rfl) <| g_v rfl (r_pick1 rfl h91) <| g_v rfl r_assign <| g_nil <| d_then ?_
      refine c_flat [(1, .int .i64 p1), (2, .string p2), (3, .pointer (some ⟨g1, 0, none⟩)), (6, .pointer (some ⟨g2, 0, none⟩)), (10, .pointer (some ⟨g3, 0, none⟩)), (11, .int .i64 x4), (36, .bool (decide (p1 ≠ 1)))] ⟨rfl, rfl, rfl, rfl, rfl, rfl, rfl, trivial⟩ (fun u => ?_)
      refine c_cond rfl (fun h92 => ?_) (fun h92 => ?_)
      ·
       replace hm := ite_t hm (of_decide_eq_true h92)
       refine c_seq <| c_region <| g_v rfl (r_loadA (tag := 100030) rfl rfl Try.isAgg43 Try.sizeOf43 rfl rfl) <| g_storeL (tag := 100060) rfl rfl rfl rfl Try.sizeOf43 rfl rfl <| g_v rfl r_assign <| g_v rfl r_assign <| g_v rfl r_assign <| g_nil <| d_then <| c_ret ?_
       refine d_ret_block <| d_ret_then <| d_ret_then ?_
       replace hm := Option.some.inj hm
       subst hm
       refine d_sta _ (fun W h => nilR h 19 25 11) <| d_sta _ (fun W h => ok_frontR (t := 19) (t' := 2004) h rfl) ?_
       refine d_retC (Ap0_0, cp0_0, Ap0_1, cp0_1, Ap0_2, cp0_2, Ap0_3, cp0_3, none, 0, ([] : List GNoteP)) Try.results19 ?_ ⟨hcp0_0, hcp0_1, hcp0_2, hcp0_3, ⟨DOk.nil, (Nat.le_refl 0)⟩⟩ (fun W h => (((h.dropH (t := 100100) rfl).dropH (t := 100060) rfl).dropH (t := 100030) rfl).phi (fun W hφ => ⟨hφ, (fun W h => fp0_0 W h) W hφ, (fun W h => fp0_1 W h) W hφ, (fun W h => fp0_2 W h) W hφ, (fun W h => fp0_3 W h) W hφ, (fun W h => DOwn.nil) W hφ⟩)) (.inr rfl)
       refine res_agg (tag := 100060) rfl rfl Try.isAgg43 Try.sizeOf43 <| res_tmp <| res_tmp <| res_tmp <| res_nil ?_
       exact rfl
      ·
       replace hm := ite_f hm (of_decide_eq_false h92)
       refine c_skip <| d_normal_block ?_
       exact d_round () hm Nat.zero_lt_one ⟨rfl, rfl, rfl, rfl, rfl, rfl, trivial⟩ (fun W h => h.phi (fun W hφ => hφ))
     ·
      replace hm := ite_f hm (of_decide_eq_false h91)
      refine g_no rfl rfl rfl rfl rfl h91 <| g_v rfl (r_pick0 rfl h91) <| g_v rfl r_assign <| g_nil <| d_then ?_
      refine c_flat [(1, .int .i64 p1), (2, .string p2), (3, .pointer (some ⟨g1, 0, none⟩)), (6, .pointer (some ⟨g2, 0, none⟩)), (10, .pointer (some ⟨g3, 0, none⟩)), (11, .int .i64 x4), (36, .bool false)] ⟨rfl, rfl, rfl, rfl, rfl, rfl, rfl, trivial⟩ (fun u => ?_)
      refine c_cond0 rfl rfl <| c_skip <| d_normal_block ?_
      exact d_round () hm Nat.zero_lt_one ⟨rfl, rfl, rfl, rfl, rfl, rfl, trivial⟩ (fun W h => h.phi (fun W hφ => hφ))
   ·
    replace hm := ite_t hm (of_decide_eq_true h89)
    refine g_no rfl rfl rfl rfl rfl h89 <| g_v rfl (r_pick1 rfl h89) <| g_v rfl r_assign <| g_nil <| d_then <| c_cond1 rfl rfl <| c_seq <| c_region <| g_v rfl (r_loadA (tag := 100030) rfl rfl Try.isAgg43 Try.sizeOf43 rfl rfl) <| g_storeL (tag := 100060) rfl rfl rfl rfl Try.sizeOf43 rfl rfl ?_
    refine g_v rfl r_assign <| g_v rfl r_assign <| g_v rfl r_assign <| g_nil <| d_then ?_
    refine c_flat [(6, .pointer (some ⟨g2, 0, none⟩)), (7, .slice none 0 0), (8, .int .i64 0), (9, .int .i64 11)] ⟨rfl, rfl, rfl, rfl, trivial⟩ (fun u => ?_)
    refine c_sta ⟨w0, M, (100100, g3, .cells #[.int .i64 p0.fMe, .int .i64 p0.fRole, .int .i64 p0.fLeader, .int .i64 p0.fCommit, .int .i64 p0.fLeft, .int .i64 p0.fHard.fTerm, .int .i64 p0.fHard.fVote, .slice Ap0_0 p0.fHard.fVoters.length cp0_0, .string p0.fHard.fSnap, .int .i64 p0.fHard.fLog.fBase, .int .i64 p0.fHard.fLog.fBaseTerm, .slice Ap0_1 p0.fHard.fLog.fEntries.length cp0_1, .slice Ap0_2 p0.fVotes.length cp0_2, .slice Ap0_3 p0.fMarks.length cp0_3] 84 (0, 0)) :: (100060, g2, .cells #[.int .i64 p0.fMe, .int .i64 p0.fRole, .int .i64 p0.fLeader, .int .i64 p0.fCommit, .int .i64 p0.fLeft, .int .i64 p0.fHard.fTerm, .int .i64 p0.fHard.fVote, .slice Ap0_0 p0.fHard.fVoters.length cp0_0, .string p0.fHard.fSnap, .int .i64 p0.fHard.fLog.fBase, .int .i64 p0.fHard.fLog.fBaseTerm, .slice Ap0_1 p0.fHard.fLog.fEntries.length cp0_1, .slice Ap0_2 p0.fVotes.length cp0_2, .slice Ap0_3 p0.fMarks.length cp0_3] 43 (0, 0)) :: (100030, g1, .cells #[.int .i64 p0.fMe, .int .i64 p0.fRole, .int .i64 p0.fLeader, .int .i64 p0.fCommit, .int .i64 p0.fLeft, .int .i64 p0.fHard.fTerm, .int .i64 p0.fHard.fVote, .slice Ap0_0 p0.fHard.fVoters.length cp0_0, .string p0.fHard.fSnap, .int .i64 p0.fHard.fLog.fBase, .int .i64 p0.fHard.fLog.fBaseTerm, .slice Ap0_1 p0.fHard.fLog.fEntries.length cp0_1, .slice Ap0_2 p0.fVotes.length cp0_2, .slice Ap0_3 p0.fMarks.length cp0_3] 43 (0, 0)) :: H, R, φ⟩ (fun _ h => h) <| c_ret <| d_ret_block <| d_ret_then <| d_ret_then ?_
    replace hm := Option.some.inj hm
    subst hm
    refine d_sta _ (fun W h => nilR h 20 25 11) <| d_sta _ (fun W h => ok_frontR (t := 20) (t' := 2004) h rfl) ?_
    refine d_retC (Ap0_0, cp0_0, Ap0_1, cp0_1, Ap0_2, cp0_2, Ap0_3, cp0_3, none, 0, ([] : List GNoteP)) Try.results19 ?_ ⟨hcp0_0, hcp0_1, hcp0_2, hcp0_3, ⟨DOk.nil, (Nat.le_refl 0)⟩⟩ (fun W h => (((h.dropH (t := 100100) rfl).dropH (t := 100060) rfl).dropH (t := 100030) rfl).phi (fun W hφ => ⟨hφ, (fun W h => fp0_0 W h) W hφ, (fun W h => fp0_1 W h) W hφ, (fun W h => fp0_2 W h) W hφ, (fun W h => fp0_3 W h) W hφ, (fun W h => DOwn.nil) W hφ⟩)) (.inr rfl)
    refine res_agg (tag := 100060) rfl rfl Try.isAgg43 Try.sizeOf43 <| res_tmp <| res_tmp <| res_tmp <| res_nil ?_
    exact rfl
 ·
  unfold m_raft_Propose_j1 at hm
  refine d_flat [(1, .int .i64 p1), (2, .string p2), (3, .pointer (some ⟨g1, 0, none⟩)), (6, .pointer (some ⟨g2, 0, none⟩)), (10, .pointer (some ⟨g3, 0, none⟩)), (11, .int .i64 x4)] ⟨rfl, rfl, rfl, rfl, rfl, rfl, trivial⟩ (fun u => ?_)
  refine d_then <| c_seq ?_
  refine c_cut (ι := Unit) [1, 2, 6, 10, 11] (fun _ => []) (fun _ => ⟨w0, M, (100100, g3, .cells #[.int .i64 p0.fMe, .int .i64 p0.fRole, .int .i64 p0.fLeader, .int .i64 p0.fCommit, .int .i64 p0.fLeft, .int .i64 p0.fHard.fTerm, .int .i64 p0.fHard.fVote, .slice Ap0_0 p0.fHard.fVoters.length cp0_0, .string p0.fHard.fSnap, .int .i64 p0.fHard.fLog.fBase, .int .i64 p0.fHard.fLog.fBaseTerm, .slice Ap0_1 p0.fHard.fLog.fEntries.length cp0_1, .slice Ap0_2 p0.fVotes.length cp0_2, .slice Ap0_3 p0.fMarks.length cp0_3] 84 (0, 0)) :: (100060, g2, .cells #[.int .i64 0, .int .i64 0, .int .i64 0, .int .i64 0, .int .i64 0, .int .i64 0, .int .i64 0, .slice none 0 0, .string (⟨#[]⟩ : ByteArray), .int .i64 0, .int .i64 0, .slice none 0 0, .slice none 0 0, .slice none 0 0] 43 (0, 0)) :: H, R, φ⟩) (fun _ => m_raft_Propose_j2 p0 p1 p2 x4 = some r) ?_ (fun _ u hm => ?_)
  ·
   refine c_seq <| c_region <| g_v rfl r_move <| g_v rfl (r_eql rfl rfl) <| g_nil <| d_then ?_
   refine c_cond rfl (fun h84 => ?_) (fun h84 => ?_)
   ·
    replace hm := ite_t hm (of_decide_eq_true h84)
    refine c_seq <| c_region <| g_v rfl (r_loadA (tag := 100100) rfl rfl Try.isAgg84 Try.sizeOf84 rfl rfl) <| g_v rfl r_move ?_
    replace hm := bnd hm
    obtain ⟨x85, hx86, hm⟩ := hm
    refine g_cn ⟨w0, M, _, _, φ⟩ (fun _ h => h) Try.call43 rfl rfl (c_raft_state_change (⟨p0⟩ : Graft_state) Ap0_0 cp0_0 hcp0_0 (fun W hS => fp0_0 W hS.now) Ap0_1 cp0_1 hcp0_1 (fun W hS => fp0_1 W hS.now) Ap0_2 cp0_2 hcp0_2 (fun W hS => fp0_2 W hS.now) Ap0_3 cp0_3 hcp0_3 (fun W hS => fp0_3 W hS.now) p2 _ hx86) (fun _ _ => ?_)
    refine g_v rfl r_assign <| g_nil <| d_then <| c_seq <| c_region <| g_v rfl r_move <| g_v rfl (r_neq rfl rfl) <| g_nil <| d_then ?_
    refine c_cond rfl (fun h87 => ?_) (fun h87 => ?_)
    ·
     replace hm := ite_t hm (of_decide_eq_true h87)
     refine c_seq <| c_region <| g_v rfl (r_loadA (tag := 100030) rfl rfl Try.isAgg43 Try.sizeOf43 rfl rfl) <| g_v rfl r_move <| g_storeL (tag := 100060) rfl rfl rfl rfl Try.sizeOf43 rfl rfl <| g_v rfl r_assign <| g_v rfl r_assign <| g_v rfl r_assign <| g_nil <| d_then ?_
     refine c_flat [(6, .pointer (some ⟨g2, 0, none⟩)), (7, .slice none 0 0), (8, .int .i64 0), (9, .int .i64 x85)] ⟨rfl, rfl, rfl, rfl, trivial⟩ (fun u => ?_)
     refine c_sta ⟨w0, M, (100100, g3, .cells #[.int .i64 p0.fMe, .int .i64 p0.fRole, .int .i64 p0.fLeader, .int .i64 p0.fCommit, .int .i64 p0.fLeft, .int .i64 p0.fHard.fTerm, .int .i64 p0.fHard.fVote, .slice Ap0_0 p0.fHard.fVoters.length cp0_0, .string p0.fHard.fSnap, .int .i64 p0.fHard.fLog.fBase, .int .i64 p0.fHard.fLog.fBaseTerm, .slice Ap0_1 p0.fHard.fLog.fEntries.length cp0_1, .slice Ap0_2 p0.fVotes.length cp0_2, .slice Ap0_3 p0.fMarks.length cp0_3] 84 (0, 0)) :: (100060, g2, .cells #[.int .i64 p0.fMe, .int .i64 p0.fRole, .int .i64 p0.fLeader, .int .i64 p0.fCommit, .int .i64 p0.fLeft, .int .i64 p0.fHard.fTerm, .int .i64 p0.fHard.fVote, .slice Ap0_0 p0.fHard.fVoters.length cp0_0, .string p0.fHard.fSnap, .int .i64 p0.fHard.fLog.fBase, .int .i64 p0.fHard.fLog.fBaseTerm, .slice Ap0_1 p0.fHard.fLog.fEntries.length cp0_1, .slice Ap0_2 p0.fVotes.length cp0_2, .slice Ap0_3 p0.fMarks.length cp0_3] 43 (0, 0)) :: (100030, g1, .cells #[.int .i64 p0.fMe, .int .i64 p0.fRole, .int .i64 p0.fLeader, .int .i64 p0.fCommit, .int .i64 p0.fLeft, .int .i64 p0.fHard.fTerm, .int .i64 p0.fHard.fVote, .slice Ap0_0 p0.fHard.fVoters.length cp0_0, .string p0.fHard.fSnap, .int .i64 p0.fHard.fLog.fBase, .int .i64 p0.fHard.fLog.fBaseTerm, .slice Ap0_1 p0.fHard.fLog.fEntries.length cp0_1, .slice Ap0_2 p0.fVotes.length cp0_2, .slice Ap0_3 p0.fMarks.length cp0_3] 43 (0, 0)) :: H, R, φ⟩ (fun _ h => h) <| c_ret <| d_ret_then <| d_ret_then ?_
     replace hm := Option.some.inj hm
     subst hm
     refine d_sta _ (fun W h => nilR h 16 25 11) <| d_sta _ (fun W h => ok_frontR (t := 16) (t' := 2004) h rfl) ?_
     refine d_retC (Ap0_0, cp0_0, Ap0_1, cp0_1, Ap0_2, cp0_2, Ap0_3, cp0_3, none, 0, ([] : List GNoteP)) Try.results19 ?_ ⟨hcp0_0, hcp0_1, hcp0_2, hcp0_3, ⟨DOk.nil, (Nat.le_refl 0)⟩⟩ (fun W h => (((h.dropH (t := 100100) rfl).dropH (t := 100060) rfl).dropH (t := 100030) rfl).phi (fun W hφ => ⟨hφ, (fun W h => fp0_0 W h) W hφ, (fun W h => fp0_1 W h) W hφ, (fun W h => fp0_2 W h) W hφ, (fun W h => fp0_3 W h) W hφ, (fun W h => DOwn.nil) W hφ⟩)) (.inr rfl)
     refine res_agg (tag := 100060) rfl rfl Try.isAgg43 Try.sizeOf43 <| res_tmp <| res_tmp <| res_tmp <| res_nil ?_
     exact rfl
    ·
     replace hm := ite_f hm (of_decide_eq_false h87)
     refine c_skip ?_
     exact d_round () hm Nat.zero_lt_one ⟨rfl, rfl, rfl, rfl, rfl, trivial⟩ (fun W h => (h.dropH (t := 100030) rfl).phi (fun W hφ => hφ))
   ·
    replace hm := ite_f hm (of_decide_eq_false h84)
    refine c_skip ?_
    exact d_round () hm Nat.zero_lt_one ⟨rfl, rfl, rfl, rfl, rfl, trivial⟩ (fun W h => (h.dropH (t := 100030) rfl).phi (fun W hφ => hφ))
  ·
   unfold m_raft_Propose_j2 at hm
   refine d_flat [(1, .int .i64 p1), (2, .string p2), (6, .pointer (some ⟨g2, 0, none⟩)), (10, .pointer (some ⟨g3, 0, none⟩)), (11, .int .i64 x4)] ⟨rfl, rfl, rfl, rfl, rfl, trivial⟩ (fun u => ?_)
   refine d_sta ⟨w0, M, (100100, g3, .cells #[.int .i64 p0.fMe, .int .i64 p0.fRole, .int .i64 p0.fLeader, .int .i64 p0.fCommit, .int .i64 p0.fLeft, .int .i64 p0.fHard.fTerm, .int .i64 p0.fHard.fVote, .slice Ap0_0 p0.fHard.fVoters.length cp0_0, .string p0.fHard.fSnap, .int .i64 p0.fHard.fLog.fBase, .int .i64 p0.fHard.fLog.fBaseTerm, .slice Ap0_1 p0.fHard.fLog.fEntries.length cp0_1, .slice Ap0_2 p0.fVotes.length cp0_2, .slice Ap0_3 p0.fMarks.length cp0_3] 84 (0, 0)) :: (100060, g2, .cells #[.int .i64 0, .int .i64 0, .int .i64 0, .int .i64 0, .int .i64 0, .int .i64 0, .int .i64 0, .slice none 0 0, .string (⟨#[]⟩ : ByteArray), .int .i64 0, .int .i64 0, .slice none 0 0, .slice none 0 0, .slice none 0 0] 43 (0, 0)) :: H, R, φ⟩ (fun _ h => h) <| d_then <| c_seq <| c_region <| g_v rfl (r_field (n := 0) Try.underlying84 rfl Try.sizeOf43 rfl rfl) <| g_v rfl (r_field (n := 5) Try.underlying43 rfl Try.sizeOf40 rfl rfl) <| g_v rfl (r_field (n := 9) Try.underlying40 rfl Try.sizeOf38 rfl rfl) <| g_v rfl (r_loadA (tag := 100100) rfl rfl Try.isAgg38 Try.sizeOf38 rfl rfl) <| g_v rfl (r_field (n := 0) Try.underlying84 rfl Try.sizeOf43 rfl rfl) <| g_v rfl (r_field (n := 5) Try.underlying43 rfl Try.sizeOf40 rfl rfl) ?_
   refine g_v rfl (r_field (n := 5) Try.underlying40 rfl Try.sizeOf3 rfl rfl) <| g_v rfl (r_load (tag := 100100) rfl rfl rfl Try.isAgg3) <| g_v rfl r_move <| g_v rfl r_move <| g_v rfl (r_build _ rfl (bld36_24 _ _ _)) ?_
   refine g_e rfl (e_lit (tag := 100640) (l := [(⟨p0.fHard.fTerm, p1, p2⟩ : GEntry)]) (enc := GEntry.enc) (sz := 3) rfl Try.underlying22 (lit36_13 _ _ _) rfl rfl (fun _ => rfl)) (fun g17 _ => ?_)
   refine g_shut (tag := 100640) rfl (fun φ18 q18' => ?_)
   have q18 : ∀ W, φ18 W → φ W := fun W h => (q18' W h).1
   have f19 := fun (W : World) (h : φ18 W) => (q18' W h).2
   replace hm := bnd hm
   obtain ⟨x20, hx21, hm⟩ := hm
   refine g_cn ⟨w0, M, _, _, φ18⟩ (fun _ h => h) Try.call44 rfl rfl (c_plog_Add p0.fHard.fLog Ap0_1 cp0_1 hcp0_1 (fun W h => fp0_1 W (q18 _ h)) [(⟨p0.fHard.fTerm, p1, p2⟩ : GEntry)] (some ⟨g17, 0, none⟩) 1 (Nat.le_refl _) (fun W h => f19 W h) _ hx21) (fun ⟨A22, c23⟩ hc23 => ?_)
   refine g_abs (fun φ25 q25' => ?_)
   have q25 : ∀ W, φ25 W → φ18 W := fun W h => (q25' W h).1
   have f24 := fun (W : World) (h : φ25 W) => (q25' W h).2
   refine g_v rfl (r_field (n := 0) Try.underlying84 rfl Try.sizeOf43 rfl rfl) <| g_v rfl (r_field (n := 5) Try.underlying43 rfl Try.sizeOf40 rfl rfl) <| g_v rfl (r_field (n := 9) Try.underlying40 rfl Try.sizeOf38 rfl rfl) <| g_storeL (tag := 100100) rfl rfl rfl rfl Try.sizeOf38 rfl rfl <| g_nil <| d_then ?_
   refine c_flat [(1, .int .i64 p1), (6, .pointer (some ⟨g2, 0, none⟩)), (10, .pointer (some ⟨g3, 0, none⟩)), (11, .int .i64 x4)] ⟨rfl, rfl, rfl, rfl, trivial⟩ (fun u => ?_)
   refine c_sta ⟨w0, M, (100100, g3, .cells #[.int .i64 p0.fMe, .int .i64 p0.fRole, .int .i64 p0.fLeader, .int .i64 p0.fCommit, .int .i64 p0.fLeft, .int .i64 p0.fHard.fTerm, .int .i64 p0.fHard.fVote, .slice Ap0_0 p0.fHard.fVoters.length cp0_0, .string p0.fHard.fSnap, .int .i64 x20.fBase, .int .i64 x20.fBaseTerm, .slice A22 x20.fEntries.length c23, .slice Ap0_2 p0.fVotes.length cp0_2, .slice Ap0_3 p0.fMarks.length cp0_3] 84 (0, 0)) :: (100060, g2, .cells #[.int .i64 0, .int .i64 0, .int .i64 0, .int .i64 0, .int .i64 0, .int .i64 0, .int .i64 0, .slice none 0 0, .string (⟨#[]⟩ : ByteArray), .int .i64 0, .int .i64 0, .slice none 0 0, .slice none 0 0, .slice none 0 0] 43 (0, 0)) :: H, R, φ25⟩ (fun _ h => h) <| c_seq ?_
   refine c_cut (ι := (List GMark) × Option Addr × Nat) [6, 10, 11] (fun ⟨l32, A33, c34⟩ => []) (fun ⟨l32, A33, c34⟩ => ⟨w0, M, (100100, g3, .cells #[.int .i64 p0.fMe, .int .i64 p0.fRole, .int .i64 p0.fLeader, .int .i64 p0.fCommit, .int .i64 p0.fLeft, .int .i64 p0.fHard.fTerm, .int .i64 p0.fHard.fVote, .slice Ap0_0 p0.fHard.fVoters.length cp0_0, .string p0.fHard.fSnap, .int .i64 x20.fBase, .int .i64 x20.fBaseTerm, .slice A22 x20.fEntries.length c23, .slice Ap0_2 p0.fVotes.length cp0_2, .slice A33 l32.length c34] 84 (0, 0)) :: (100060, g2, .cells #[.int .i64 0, .int .i64 0, .int .i64 0, .int .i64 0, .int .i64 0, .int .i64 0, .int .i64 0, .slice none 0 0, .string (⟨#[]⟩ : ByteArray), .int .i64 0, .int .i64 0, .slice none 0 0, .slice none 0 0, .slice none 0 0] 43 (0, 0)) :: H, R, fun W => φ25 W ∧ Cl W A33 (l32.flatMap GMark.enc)⟩) (fun ⟨l32, A33, c34⟩ => m_raft_Propose_j3 p0 x20 x4 l32 = some r ∧ l32.length ≤ c34) ?_ (fun ⟨l32, A33, c34⟩ u ⟨hm, hc34⟩ => ?_)
   ·
    refine c_seq <| c_region <| g_v rfl r_move <| g_v rfl (r_eql rfl rfl) <| g_nil <| d_then ?_
    refine c_cond rfl (fun h76 => ?_) (fun h76 => ?_)
    ·
     replace hm := ite_t hm (of_decide_eq_true h76)
     refine c_region <| g_v rfl (r_loadA (tag := 100100) rfl rfl Try.isAgg84 Try.sizeOf84 rfl rfl) <| g_v rfl r_move <| g_v rfl (r_add rfl rfl rfl) ?_
     replace hm := bnd hm
     obtain ⟨x77, hx78, hm⟩ := hm
     refine g_cn ⟨w0, M, _, _, φ25⟩ (fun _ h => h) Try.call45 rfl rfl (c_raft_state_marks (⟨(⟨p0.fMe, p0.fRole, p0.fLeader, p0.fCommit, p0.fLeft, (⟨p0.fHard.fTerm, p0.fHard.fVote, p0.fHard.fVoters, p0.fHard.fSnap, x20⟩ : GHard), p0.fVotes, p0.fMarks⟩ : GRaft)⟩ : Graft_state) Ap0_0 cp0_0 hcp0_0 (fun W h => fp0_0 W (q18 _ (q25 _ h))) A22 c23 hc23 (fun W h => f24 W h) Ap0_2 cp0_2 hcp0_2 (fun W h => fp0_2 W (q18 _ (q25 _ h))) Ap0_3 cp0_3 hcp0_3 (fun W h => fp0_3 W (q18 _ (q25 _ h))) (w64 (x4 + 1)) _ hx78) (fun ⟨A79, c80⟩ hc80 => ?_)
     refine g_sta _ (fun W h => (ok_frontR (t := 2000) (t' := 100740) h rfl)) <| g_v rfl (r_field (n := 0) Try.underlying84 rfl Try.sizeOf43 rfl rfl) <| g_v rfl (r_field (n := 13) Try.underlying43 rfl Try.sizeOf41 rfl rfl) <| g_storeL (tag := 100100) rfl rfl rfl rfl Try.sizeOf41 rfl rfl <| g_nil ?_
     refine d_shut (tag := 100740) rfl (fun φ82 q82' => ?_)
     have q82 : ∀ W, φ82 W → φ25 W := fun W h => (q82' W h).1
     have f83 := fun (W : World) (h : φ82 W) => (q82' W h).2
     exact d_round (x77, A79, c80) ⟨hm, hc80⟩ Nat.zero_lt_one ⟨rfl, rfl, rfl, trivial⟩ (fun W h => h.phi (fun W hφ => ⟨(q82 _ hφ), (fun W h => f83 W h) W hφ⟩))
    ·
     replace hm := ite_f hm (of_decide_eq_false h76)
     refine c_skip ?_
     exact d_round (p0.fMarks, Ap0_3, cp0_3) ⟨hm, hcp0_3⟩ Nat.zero_lt_one ⟨rfl, rfl, rfl, trivial⟩ (fun W h => h.phi (fun W hφ => ⟨hφ, (fun W h => fp0_3 W (q18 _ (q25 _ h))) W hφ⟩))
   ·
    unfold m_raft_Propose_j3 at hm
    refine d_abs (fun φ36 q36' => ?_)
    have q36 : ∀ W, φ36 W → φ25 W := fun W h => (q36' W h).1
    have f35 := fun (W : World) (h : φ36 W) => (q36' W h).2
    refine d_flat [(6, .pointer (some ⟨g2, 0, none⟩)), (10, .pointer (some ⟨g3, 0, none⟩)), (11, .int .i64 x4)] ⟨rfl, rfl, rfl, trivial⟩ (fun u => ?_)
    refine d_sta ⟨w0, M, (100100, g3, .cells #[.int .i64 p0.fMe, .int .i64 p0.fRole, .int .i64 p0.fLeader, .int .i64 p0.fCommit, .int .i64 p0.fLeft, .int .i64 p0.fHard.fTerm, .int .i64 p0.fHard.fVote, .slice Ap0_0 p0.fHard.fVoters.length cp0_0, .string p0.fHard.fSnap, .int .i64 x20.fBase, .int .i64 x20.fBaseTerm, .slice A22 x20.fEntries.length c23, .slice Ap0_2 p0.fVotes.length cp0_2, .slice A33 l32.length c34] 84 (0, 0)) :: (100060, g2, .cells #[.int .i64 0, .int .i64 0, .int .i64 0, .int .i64 0, .int .i64 0, .int .i64 0, .int .i64 0, .slice none 0 0, .string (⟨#[]⟩ : ByteArray), .int .i64 0, .int .i64 0, .slice none 0 0, .slice none 0 0, .slice none 0 0] 43 (0, 0)) :: H, R, φ36⟩ (fun _ h => h) <| d_then <| c_seq <| c_region <| g_v rfl (r_loadA (tag := 100100) rfl rfl Try.isAgg84 Try.sizeOf84 rfl rfl) ?_
    replace hm := bnd hm
    obtain ⟨x37, hx38, hm⟩ := hm
    refine g_cn ⟨w0, M, _, _, φ36⟩ (fun _ h => h) Try.call46 rfl rfl (c_raft_state_commit (⟨(⟨p0.fMe, p0.fRole, p0.fLeader, p0.fCommit, p0.fLeft, (⟨p0.fHard.fTerm, p0.fHard.fVote, p0.fHard.fVoters, p0.fHard.fSnap, x20⟩ : GHard), p0.fVotes, l32⟩ : GRaft)⟩ : Graft_state) Ap0_0 cp0_0 hcp0_0 (fun W h => fp0_0 W (q18 _ (q25 _ (q36 _ h)))) A22 c23 hc23 (fun W h => f24 W (q36 _ h)) Ap0_2 cp0_2 hcp0_2 (fun W h => fp0_2 W (q18 _ (q25 _ (q36 _ h)))) A33 c34 hc34 (fun W h => f35 W h) _ hx38) (fun ⟨A39, c40, A42, c43, A45, c46, A48, c49⟩ ⟨hc40, hc43, hc46, hc49⟩ => ?_)
    refine g_abs (fun φ51 q51' => ?_)
    have q51 : ∀ W, φ51 W → φ36 W := fun W h => (q51' W h).1
    have f41 := fun (W : World) (h : φ51 W) => (q51' W h).2.1
    have f44 := fun (W : World) (h : φ51 W) => (q51' W h).2.2.1
    have f47 := fun (W : World) (h : φ51 W) => (q51' W h).2.2.2.1
    have f50 := fun (W : World) (h : φ51 W) => (q51' W h).2.2.2.2
    refine g_storeL (tag := 100100) rfl rfl rfl rfl Try.sizeOf84 rfl rfl <| g_nil <| d_then <| c_seq <| ga_start (n := 10) ⟨w0, M, (100100, g3, .cells #[.int .i64 x37.fRaft.fMe, .int .i64 x37.fRaft.fRole, .int .i64 x37.fRaft.fLeader, .int .i64 x37.fRaft.fCommit, .int .i64 x37.fRaft.fLeft, .int .i64 x37.fRaft.fHard.fTerm, .int .i64 x37.fRaft.fHard.fVote, .slice A39 x37.fRaft.fHard.fVoters.length c40, .string x37.fRaft.fHard.fSnap, .int .i64 x37.fRaft.fHard.fLog.fBase, .int .i64 x37.fRaft.fHard.fLog.fBaseTerm, .slice A42 x37.fRaft.fHard.fLog.fEntries.length c43, .slice A45 x37.fRaft.fVotes.length c46, .slice A48 x37.fRaft.fMarks.length c49] 84 (0, 0)) :: H, R, φ51⟩ [] #[false, false, false, false, false, false, false, false, false, false] (fun W h => (h.dropH (t := 100060) rfl).phi (fun W hφ => hφ)) mixed rfl rfl <| ga_v (i := 0) (bz 10 1) rfl (by kernel_rfl) (fun _ _ _ _ h => h) rfl (r_field (n := 0) Try.underlying84 rfl Try.sizeOf43 rfl rfl) <| ga_v (i := 1) (bz 10 3) rfl (by kernel_rfl) (fun _ _ _ _ h => h) rfl (r_loadA (tag := 100100) rfl rfl Try.isAgg43 Try.sizeOf43 rfl rfl) <| ga_v (i := 2) (bz 10 7) rfl (by kernel_rfl) (fun _ _ _ _ h => h) rfl (r_loadA (tag := 100100) rfl rfl Try.isAgg84 Try.sizeOf84 rfl rfl) <| ga_v (i := 4) (bz 10 23) rfl (by kernel_rfl) (fun _ _ _ _ h => h) rfl (r_move) <| ga_v (i := 5) (bz 10 55) rfl (by kernel_rfl) (fun _ _ _ _ h => h) rfl (r_add rfl rfl rfl) ?_
    replace hm := bnd hm
    obtain ⟨x68, hx69, hm⟩ := hm
    refine ga_cn (first := #[]) (i := 3) (bz 10 63) rfl (by kernel_rfl) (by decide)  ⟨w0, M, _, _, φ51⟩ (fun _ h => h) Try.call39 rfl rfl rfl (c_raft_state_all x37 A39 c40 hc40 (fun W h => f41 W h) A42 c43 hc43 (fun W hS => f44 W hS.now) A45 c46 hc46 (fun W hS => f47 W hS.now) A48 c49 hc49 (fun W hS => f50 W hS.now) _ hx69) (fun ⟨A70, c71, ps73⟩ W hc71 h => ((((ok_frontR (t := 2000) (t' := 100820) h rfl).phi (fun _ hh => hh.1)).dropR (t := 100820) rfl).dropH (t := 100060) rfl).phi (fun W hφ => hφ)) (fun ⟨A70, c71, ps73⟩ hc71 => ?_)
    refine ga_sta _ (fun W h => (ok_frontR (t := 2000) (t' := 100820) h rfl)) ?_
    refine ga_abs (fun φ75 q75' => ?_)
    have q75 : ∀ W, φ75 W → φ51 W := fun W h => (q75' W h).1
    have f74 := fun (W : World) (h : φ75 W) => (q75' W h).2
    refine ga_storeN (i := 6) (tag := 100060) (bz 10 127) rfl (by kernel_rfl) (by decide) rfl rfl rfl rfl Try.sizeOf43 rfl rfl (fun W h => ((h.dropR (t := 100820) rfl).dropH (t := 100060) rfl).phi (fun W hφ => (q75 _ hφ))) <| ga_r (i := 7) (bz 10 255) rfl (by kernel_rfl) (by decide) rfl (r_assign) <| ga_r (i := 8) (bz 10 511) rfl (by kernel_rfl) (by decide) rfl (r_assign) <| ga_r (i := 9) (bz 10 1023) rfl (by kernel_rfl) (by decide) rfl (r_assign) <| ga_done (by kernel_rfl) <| d_then ?_
    refine c_flat [(6, .pointer (some ⟨g2, 0, none⟩)), (7, .slice A70 x68.length c71), (8, .int .i64 (w64 (x4 + 1))), (9, .int .i64 0)] ⟨rfl, rfl, rfl, rfl, trivial⟩ (fun u => ?_)
    refine c_sta ⟨w0, M, (100100, g3, .cells #[.int .i64 x37.fRaft.fMe, .int .i64 x37.fRaft.fRole, .int .i64 x37.fRaft.fLeader, .int .i64 x37.fRaft.fCommit, .int .i64 x37.fRaft.fLeft, .int .i64 x37.fRaft.fHard.fTerm, .int .i64 x37.fRaft.fHard.fVote, .slice A39 x37.fRaft.fHard.fVoters.length c40, .string x37.fRaft.fHard.fSnap, .int .i64 x37.fRaft.fHard.fLog.fBase, .int .i64 x37.fRaft.fHard.fLog.fBaseTerm, .slice A42 x37.fRaft.fHard.fLog.fEntries.length c43, .slice A45 x37.fRaft.fVotes.length c46, .slice A48 x37.fRaft.fMarks.length c49] 84 (0, 0)) :: (100060, g2, .cells #[.int .i64 x37.fRaft.fMe, .int .i64 x37.fRaft.fRole, .int .i64 x37.fRaft.fLeader, .int .i64 x37.fRaft.fCommit, .int .i64 x37.fRaft.fLeft, .int .i64 x37.fRaft.fHard.fTerm, .int .i64 x37.fRaft.fHard.fVote, .slice A39 x37.fRaft.fHard.fVoters.length c40, .string x37.fRaft.fHard.fSnap, .int .i64 x37.fRaft.fHard.fLog.fBase, .int .i64 x37.fRaft.fHard.fLog.fBaseTerm, .slice A42 x37.fRaft.fHard.fLog.fEntries.length c43, .slice A45 x37.fRaft.fVotes.length c46, .slice A48 x37.fRaft.fMarks.length c49] 43 (0, 0)) :: H, (100820, ⟨.slice A70 x68.length c71, 25, 11, x68.length, (x68.zip ps73).flatMap GNote.encP⟩) :: R, φ75⟩ (fun _ h => h) <| c_ret ?_
    replace hm := Option.some.inj hm
    subst hm
    refine d_sta _ (fun W h => ok_frontR (t := 100820) (t' := 2004) h rfl) ?_
    refine d_retC (A39, c40, A42, c43, A45, c46, A48, c49, A70, c71, ps73) Try.results19 ?_ ⟨hc40, hc43, hc46, hc49, ⟨hc71.1, hc71.2⟩⟩ (fun W h => ((h.dropH (t := 100100) rfl).dropH (t := 100060) rfl).phi (fun W hφ => ⟨(q18 _ (q25 _ (q36 _ (q51 _ (q75 _ hφ))))), (fun W h => f41 W (q75 _ h)) W hφ, (fun W h => f44 W (q75 _ h)) W hφ, (fun W h => f47 W (q75 _ h)) W hφ, (fun W h => f50 W (q75 _ h)) W hφ, (fun W h => (f74 W h)) W hφ⟩)) (.inr rfl)
    refine res_agg (tag := 100060) rfl rfl Try.isAgg43 Try.sizeOf43 <| res_tmp <| res_tmp <| res_tmp <| res_nil ?_
    exact rfl
end Go.Proofs.Ytoglbdaagfoddaa
