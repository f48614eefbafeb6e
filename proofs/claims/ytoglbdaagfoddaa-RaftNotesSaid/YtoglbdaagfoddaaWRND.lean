import Derived.Test.YtoglbdaagfoddaaWRNC
set_option maxRecDepth 100000
set_option maxHeartbeats 4000000
set_option linter.unusedVariables false
set_option linter.unusedSimpArgs false
namespace Go.Proofs.Ytoglbdaagfoddaa
open Go.RowKit Go.Proofs.YtoglbdaagfoddaaW.PrintLast
noncomputable def m_raft_state_receive_j2 (p0 : Graft_state) (p1 : GNote) (b14 : Bool) (i16 : Int) (i17 : Int) : Option (Graft_state × (List GNote)) :=
  (m_raft_state_answers (⟨(⟨p0.fRaft.fMe, p0.fRaft.fRole, p0.fRaft.fLeader, p0.fRaft.fCommit, i16, (⟨p0.fRaft.fHard.fTerm, i17, p0.fRaft.fHard.fVoters, p0.fRaft.fHard.fSnap, p0.fRaft.fHard.fLog⟩ : GHard), p0.fRaft.fVotes, p0.fRaft.fMarks⟩ : GRaft)⟩ : Graft_state) p1 2 0 b14).bind fun x34 =>
  some ((⟨(⟨p0.fRaft.fMe, p0.fRaft.fRole, p0.fRaft.fLeader, p0.fRaft.fCommit, i16, (⟨p0.fRaft.fHard.fTerm, i17, p0.fRaft.fHard.fVoters, p0.fRaft.fHard.fSnap, p0.fRaft.fHard.fLog⟩ : GHard), p0.fRaft.fVotes, p0.fRaft.fMarks⟩ : GRaft)⟩ : Graft_state), x34)
noncomputable def m_raft_state_receive_j1 (p0 : Graft_state) (p1 : GNote) (p2 : Int) (b14 : Bool) : Option (Graft_state × (List GNote)) :=
  if b14 = true then
    m_raft_state_receive_j2 p0 p1 b14 p2 (w64 (p1.fFrom + 1))
  else
    m_raft_state_receive_j2 p0 p1 b14 p0.fRaft.fLeft p0.fRaft.fHard.fVote
noncomputable def m_raft_state_receive (p0 : Graft_state) (p1 : GNote) (p2 : Int) : Option (Graft_state × (List GNote)) :=
  if p1.fKind = 1 then
    if p1.fTerm < p0.fRaft.fHard.fTerm then
      m_raft_state_receive_j1 p0 p1 p2 false
    else
      if p0.fRaft.fHard.fVote = 0 then
        if p0.fRaft.fRole = 0 then
          (m_plog_Newer p0.fRaft.fHard.fLog p1.fIndex p1.fLogTerm).bind fun x50 =>
          m_raft_state_receive_j1 p0 p1 p2 x50
        else
          m_raft_state_receive_j1 p0 p1 p2 false
      else
        if p0.fRaft.fHard.fVote = w64 (p1.fFrom + 1) then
          if p0.fRaft.fRole = 0 then
            (m_plog_Newer p0.fRaft.fHard.fLog p1.fIndex p1.fLogTerm).bind fun x47 =>
            m_raft_state_receive_j1 p0 p1 p2 x47
          else
            m_raft_state_receive_j1 p0 p1 p2 false
        else
          m_raft_state_receive_j1 p0 p1 p2 false
  else
    if p1.fKind = 2 then
      if p1.fTerm < p0.fRaft.fHard.fTerm then
        some (p0, ([] : List GNote))
      else
        if p0.fRaft.fRole ≠ 1 then
          some (p0, ([] : List GNote))
        else
          if p1.fGood = true then
            (m_raft_state_voters p0).bind fun x76 =>
            (m_slices_Contains_35 x76 p1.fFrom).bind fun x81 =>
            if x81 = true then
              (m_raft_state_voted p0 p1.fFrom).bind fun (z105 : Graft_state × (List GNote)) =>
              some (z105.1, z105.2)
            else
              some (p0, ([] : List GNote))
          else
            some (p0, ([] : List GNote))
    else
      if p1.fKind = 5 then
        if p1.fTerm < p0.fRaft.fHard.fTerm then
          some (p0, ([] : List GNote))
        else
          if p0.fRaft.fRole ≠ 2 then
            some (p0, ([] : List GNote))
          else
            (m_raft_state_answered p0 p1).bind fun (z130 : Graft_state × (List GNote)) =>
            some (z130.1, z130.2)
      else
        if p1.fTerm < p0.fRaft.fHard.fTerm then
          (m_raft_state_answers p0 p1 5 0 false).bind fun x148 =>
          some (p0, x148)
        else
          if p0.fRaft.fRole = 2 then
            some (p0, ([] : List GNote))
          else
            if p1.fKind = 4 then
              (m_raft_state_installed (⟨(⟨p0.fRaft.fMe, 0, w64 (p1.fFrom + 1), p0.fRaft.fCommit, p2, p0.fRaft.fHard, ([] : List Int), p0.fRaft.fMarks⟩ : GRaft)⟩ : Graft_state) p1).bind fun (z179 : Graft_state × (List GNote)) =>
              some (z179.1, z179.2)
            else
              (m_raft_state_appended (⟨(⟨p0.fRaft.fMe, 0, w64 (p1.fFrom + 1), p0.fRaft.fCommit, p2, p0.fRaft.fHard, ([] : List Int), p0.fRaft.fMarks⟩ : GRaft)⟩ : Graft_state) p1).bind fun (z201 : Graft_state × (List GNote)) =>
              some (z201.1, z201.2)
theorem c_raft_state_receive {w0 : World} {M : Nat → Prop} {H : List (Nat × Nat × Obj)} {R : List (Nat × Row)} {φ : World → Prop} (p0 : Graft_state) (Ap0_0 : Option Addr) (cp0_0 : Nat) (hcp0_0 : p0.fRaft.fHard.fVoters.length ≤ cp0_0) (fp0_0 : ∀ W, φ W → Cl W Ap0_0 (p0.fRaft.fHard.fVoters.flatMap (fun x : Int => [Value.int .i64 x]))) (Ap0_1 : Option Addr) (cp0_1 : Nat) (hcp0_1 : p0.fRaft.fHard.fLog.fEntries.length ≤ cp0_1) (fp0_1 : ∀ W, φ W → Cl W Ap0_1 (p0.fRaft.fHard.fLog.fEntries.flatMap GEntry.enc)) (Ap0_2 : Option Addr) (cp0_2 : Nat) (hcp0_2 : p0.fRaft.fVotes.length ≤ cp0_2) (fp0_2 : ∀ W, φ W → Cl W Ap0_2 (p0.fRaft.fVotes.flatMap (fun x : Int => [Value.int .i64 x]))) (Ap0_3 : Option Addr) (cp0_3 : Nat) (hcp0_3 : p0.fRaft.fMarks.length ≤ cp0_3) (fp0_3 : ∀ W, φ W → Cl W Ap0_3 (p0.fRaft.fMarks.flatMap GMark.enc)) (p1 : GNote) (Ap1_0 : Option Addr) (cp1_0 : Nat) (hcp1_0 : p1.fEntries.length ≤ cp1_0) (fp1_0 : ∀ W, φ W → Cl W Ap1_0 (p1.fEntries.flatMap GEntry.enc)) (Ap1_1 : Option Addr) (cp1_1 : Nat) (hcp1_1 : p1.fVoters.length ≤ cp1_1) (fp1_1 : ∀ W, φ W → Cl W Ap1_1 (p1.fVoters.flatMap (fun x : Int => [Value.int .i64 x]))) (p2 : Int) (r : Graft_state × (List GNote)) (hm : m_raft_state_receive p0 p1 p2 = some r) :
    Cn Try.prog 38 #[.agg #[.int .i64 p0.fRaft.fMe, .int .i64 p0.fRaft.fRole, .int .i64 p0.fRaft.fLeader, .int .i64 p0.fRaft.fCommit, .int .i64 p0.fRaft.fLeft, .int .i64 p0.fRaft.fHard.fTerm, .int .i64 p0.fRaft.fHard.fVote, .slice Ap0_0 p0.fRaft.fHard.fVoters.length cp0_0, .string p0.fRaft.fHard.fSnap, .int .i64 p0.fRaft.fHard.fLog.fBase, .int .i64 p0.fRaft.fHard.fLog.fBaseTerm, .slice Ap0_1 p0.fRaft.fHard.fLog.fEntries.length cp0_1, .slice Ap0_2 p0.fRaft.fVotes.length cp0_2, .slice Ap0_3 p0.fRaft.fMarks.length cp0_3], .agg #[.int .i64 p1.fKind, .int .i64 p1.fFrom, .int .i64 p1.fTo, .int .i64 p1.fTerm, .int .i64 p1.fIndex, .int .i64 p1.fLogTerm, .int .i64 p1.fCommit, .bool p1.fGood, .slice Ap1_0 p1.fEntries.length cp1_0, .slice Ap1_1 p1.fVoters.length cp1_1, .string p1.fSnap], .int .i64 p2] ⟨w0, M, H, R, φ⟩ (fun x : Option Addr × Nat × Option Addr × Nat × Option Addr × Nat × Option Addr × Nat × Option Addr × Nat × List GNoteP => .tuple #[.agg #[.int .i64 r.1.fRaft.fMe, .int .i64 r.1.fRaft.fRole, .int .i64 r.1.fRaft.fLeader, .int .i64 r.1.fRaft.fCommit, .int .i64 r.1.fRaft.fLeft, .int .i64 r.1.fRaft.fHard.fTerm, .int .i64 r.1.fRaft.fHard.fVote, .slice x.1 r.1.fRaft.fHard.fVoters.length x.2.1, .string r.1.fRaft.fHard.fSnap, .int .i64 r.1.fRaft.fHard.fLog.fBase, .int .i64 r.1.fRaft.fHard.fLog.fBaseTerm, .slice x.2.2.1 r.1.fRaft.fHard.fLog.fEntries.length x.2.2.2.1, .slice x.2.2.2.2.1 r.1.fRaft.fVotes.length x.2.2.2.2.2.1, .slice x.2.2.2.2.2.2.1 r.1.fRaft.fMarks.length x.2.2.2.2.2.2.2.1], .slice x.2.2.2.2.2.2.2.2.1 r.2.length x.2.2.2.2.2.2.2.2.2.1]) (fun x => r.1.fRaft.fHard.fVoters.length ≤ x.2.1 ∧ r.1.fRaft.fHard.fLog.fEntries.length ≤ x.2.2.2.1 ∧ r.1.fRaft.fVotes.length ≤ x.2.2.2.2.2.1 ∧ r.1.fRaft.fMarks.length ≤ x.2.2.2.2.2.2.2.1 ∧ (DOk GNote.capP r.2 x.2.2.2.2.2.2.2.2.2.2 ∧ r.2.length ≤ x.2.2.2.2.2.2.2.2.2.1)) (fun x => ⟨w0, M, H, (2004, ⟨.slice x.2.2.2.2.2.2.2.2.1 r.2.length x.2.2.2.2.2.2.2.2.2.1, 25, 11, r.2.length, (r.2.zip x.2.2.2.2.2.2.2.2.2.2).flatMap GNote.encP⟩) :: R, fun W => φ W ∧ Cl W x.1 (r.1.fRaft.fHard.fVoters.flatMap (fun x : Int => [Value.int .i64 x])) ∧ Cl W x.2.2.1 (r.1.fRaft.fHard.fLog.fEntries.flatMap GEntry.enc) ∧ Cl W x.2.2.2.2.1 (r.1.fRaft.fVotes.flatMap (fun x : Int => [Value.int .i64 x])) ∧ Cl W x.2.2.2.2.2.2.1 (r.1.fRaft.fMarks.flatMap GMark.enc) ∧ DOwn GNote.ownP r.2 x.2.2.2.2.2.2.2.2.2.2 W⟩) := by
 unfold m_raft_state_receive at hm
 refine cn_intro (fn := Try.f38) (N := 153) Try.func38 rfl Try.ntmps38 rfl <| c_seq <| c_region ?_
 refine g_e rfl (e_box 100030 rfl) (fun g1 _ => ?_)
 refine g_e rfl (e_box 100040 rfl) (fun g2 _ => ?_)
 refine g_e rfl (e_alloc 100060 Try.zeroValue84) (fun g3 _ => ?_)
 refine g_v rfl r_assign <| g_nil <| d_then <| c_seq <| c_region <| g_v rfl (r_field (n := 3) Try.underlying25 rfl Try.sizeOf3 rfl rfl) <| g_v rfl (r_load (tag := 100040) rfl rfl rfl Try.isAgg3) <| g_v rfl (r_field (n := 0) Try.underlying84 rfl Try.sizeOf43 rfl rfl) <| g_v rfl (r_field (n := 5) Try.underlying43 rfl Try.sizeOf40 rfl rfl) <| g_v rfl (r_field (n := 5) Try.underlying40 rfl Try.sizeOf3 rfl rfl) ?_
 refine g_v rfl (r_load (tag := 100030) rfl rfl rfl Try.isAgg3) <| g_v rfl (r_lss rfl rfl) <| g_v rfl r_assign <| g_nil <| d_then ?_
 refine c_flat [(2, .int .i64 p2), (3, .pointer (some ⟨g1, 0, none⟩)), (4, .pointer (some ⟨g2, 0, none⟩)), (6, .pointer (some ⟨g3, 0, none⟩)), (8, .bool (decide (p1.fTerm < p0.fRaft.fHard.fTerm)))] ⟨rfl, rfl, rfl, rfl, rfl, trivial⟩ (fun u => ?_)
 refine c_sta ⟨w0, M, (100060, g3, .cells #[.int .i64 0, .int .i64 0, .int .i64 0, .int .i64 0, .int .i64 0, .int .i64 0, .int .i64 0, .slice none 0 0, .string (⟨#[]⟩ : ByteArray), .int .i64 0, .int .i64 0, .slice none 0 0, .slice none 0 0, .slice none 0 0] 84 (0, 0)) :: (100040, g2, .cells #[.int .i64 p1.fKind, .int .i64 p1.fFrom, .int .i64 p1.fTo, .int .i64 p1.fTerm, .int .i64 p1.fIndex, .int .i64 p1.fLogTerm, .int .i64 p1.fCommit, .bool p1.fGood, .slice Ap1_0 p1.fEntries.length cp1_0, .slice Ap1_1 p1.fVoters.length cp1_1, .string p1.fSnap] 25 (0, 0)) :: (100030, g1, .cells #[.int .i64 p0.fRaft.fMe, .int .i64 p0.fRaft.fRole, .int .i64 p0.fRaft.fLeader, .int .i64 p0.fRaft.fCommit, .int .i64 p0.fRaft.fLeft, .int .i64 p0.fRaft.fHard.fTerm, .int .i64 p0.fRaft.fHard.fVote, .slice Ap0_0 p0.fRaft.fHard.fVoters.length cp0_0, .string p0.fRaft.fHard.fSnap, .int .i64 p0.fRaft.fHard.fLog.fBase, .int .i64 p0.fRaft.fHard.fLog.fBaseTerm, .slice Ap0_1 p0.fRaft.fHard.fLog.fEntries.length cp0_1, .slice Ap0_2 p0.fRaft.fVotes.length cp0_2, .slice Ap0_3 p0.fRaft.fMarks.length cp0_3] 84 (0, 0)) :: H, R, φ⟩ (fun _ h => h) <| c_seq <| c_seq <| c_region <| g_v rfl (r_field (n := 0) Try.underlying25 rfl Try.sizeOf3 rfl rfl) <| g_v rfl (r_load (tag := 100040) rfl rfl rfl Try.isAgg3) <| g_nil <| d_then <| c_block <| c_seq ?_
 refine c_region <| g_v rfl (r_eql rfl rfl) <| g_v rfl r_assign <| g_nil <| d_then ?_
 refine c_cond rfl (fun h4 => ?_) (fun h4 => ?_)
 ·
  replace hm := ite_t hm (of_decide_eq_true h4)
  refine c_seq ?_
  refine c_cut (ι := Bool) [2, 3, 4, 6, 9] (fun b14 => [(9, .bool b14)]) (fun b14 => ⟨w0, M, (100060, g3, .cells #[.int .i64 0, .int .i64 0, .int .i64 0, .int .i64 0, .int .i64 0, .int .i64 0, .int .i64 0, .slice none 0 0, .string (⟨#[]⟩ : ByteArray), .int .i64 0, .int .i64 0, .slice none 0 0, .slice none 0 0, .slice none 0 0] 84 (0, 0)) :: (100040, g2, .cells #[.int .i64 p1.fKind, .int .i64 p1.fFrom, .int .i64 p1.fTo, .int .i64 p1.fTerm, .int .i64 p1.fIndex, .int .i64 p1.fLogTerm, .int .i64 p1.fCommit, .bool p1.fGood, .slice Ap1_0 p1.fEntries.length cp1_0, .slice Ap1_1 p1.fVoters.length cp1_1, .string p1.fSnap] 25 (0, 0)) :: (100030, g1, .cells #[.int .i64 p0.fRaft.fMe, .int .i64 p0.fRaft.fRole, .int .i64 p0.fRaft.fLeader, .int .i64 p0.fRaft.fCommit, .int .i64 p0.fRaft.fLeft, .int .i64 p0.fRaft.fHard.fTerm, .int .i64 p0.fRaft.fHard.fVote, .slice Ap0_0 p0.fRaft.fHard.fVoters.length cp0_0, .string p0.fRaft.fHard.fSnap, .int .i64 p0.fRaft.fHard.fLog.fBase, .int .i64 p0.fRaft.fHard.fLog.fBaseTerm, .slice Ap0_1 p0.fRaft.fHard.fLog.fEntries.length cp0_1, .slice Ap0_2 p0.fRaft.fVotes.length cp0_2, .slice Ap0_3 p0.fRaft.fMarks.length cp0_3] 84 (0, 0)) :: H, R, φ⟩) (fun b14 => m_raft_state_receive_j1 p0 p1 p2 b14 = some r) ?_ (fun b14 u hm => ?_)
  ·
   refine c_region <| g_v rfl r_move <| g_v rfl (r_not rfl) <| g_v rfl r_move ?_
   refine g_if rfl rfl rfl rfl rfl (fun h43 => ?_) (fun h43 => ?_)
   ·
    have h43' : (decide (p1.fTerm < p0.fRaft.fHard.fTerm)) = false := by revert h43; cases (decide (p1.fTerm < p0.fRaft.fHard.fTerm)) <;> simp
    replace hm := ite_f hm (of_decide_eq_false h43')
    refine g_v rfl (r_field (n := 0) Try.underlying84 rfl Try.sizeOf43 rfl rfl) <| g_do rfl rfl rfl rfl rfl h43 <| g_v rfl (r_field (n := 5) Try.underlying43 rfl Try.sizeOf40 rfl rfl) <| g_do rfl rfl rfl rfl rfl h43 <| g_v rfl (r_field (n := 6) Try.underlying40 rfl Try.sizeOf3 rfl rfl) <| g_do rfl rfl rfl rfl rfl h43 <| g_v rfl (r_load (tag := 100030) rfl rfl rfl Try.isAgg3) <| g_do rfl rfl rfl rfl rfl h43 <| g_v rfl (r_eql rfl rfl) <| g_do rfl rfl rfl rfl rfl h43 ?_
    refine g_v rfl r_move ?_
    refine g_if rfl rfl rfl rfl rfl (fun h44 => ?_) (fun h44 => ?_)
    ·
     replace hm := ite_f hm (of_decide_eq_false h44)
     refine g_v rfl (r_field (n := 0) Try.underlying84 rfl Try.sizeOf43 rfl rfl) <| g_do rfl rfl rfl rfl rfl h44 <| g_v rfl (r_field (n := 5) Try.underlying43 rfl Try.sizeOf40 rfl rfl) <| g_do rfl rfl rfl rfl rfl h44 <| g_v rfl (r_field (n := 6) Try.underlying40 rfl Try.sizeOf3 rfl rfl) <| g_do rfl rfl rfl rfl rfl h44 <| g_v rfl (r_load (tag := 100030) rfl rfl rfl Try.isAgg3) <| g_do rfl rfl rfl rfl rfl h44 <| g_v rfl (r_field (n := 1) Try.underlying25 rfl Try.sizeOf3 rfl rfl) <| g_do rfl rfl rfl rfl rfl h44 ?_
     refine g_v rfl (r_load (tag := 100040) rfl rfl rfl Try.isAgg3) <| g_do rfl rfl rfl rfl rfl h44 <| g_v rfl (r_add rfl rfl rfl) <| g_do rfl rfl rfl rfl rfl h44 <| g_v rfl (r_eql rfl rfl) <| g_do rfl rfl rfl rfl rfl h43 <| g_v rfl (r_pick0 rfl h44) <| g_v rfl (r_pick1 rfl h43) <| g_v rfl r_move ?_
     refine g_if rfl rfl rfl rfl rfl (fun h45 => ?_) (fun h45 => ?_)
     ·
      replace hm := ite_t hm (of_decide_eq_true h45)
      refine g_v rfl (r_field (n := 0) Try.underlying84 rfl Try.sizeOf43 rfl rfl) <| g_do rfl rfl rfl rfl rfl h45 <| g_v rfl (r_field (n := 1) Try.underlying43 rfl Try.sizeOf3 rfl rfl) <| g_do rfl rfl rfl rfl rfl h45 <| g_v rfl (r_load (tag := 100030) rfl rfl rfl Try.isAgg3) <| g_do rfl rfl rfl rfl rfl h45 <| g_v rfl (r_eql rfl rfl) <| g_v rfl (r_pick1 rfl h45) <| g_v rfl r_move ?_
      refine g_if rfl rfl rfl rfl rfl (fun h46 => ?_) (fun h46 => ?_)
      ·
       replace hm := ite_t hm (of_decide_eq_true h46)
       refine g_v rfl (r_field (n := 0) Try.underlying84 rfl Try.sizeOf43 rfl rfl) <| g_do rfl rfl rfl rfl rfl h46 <| g_v rfl (r_field (n := 5) Try.underlying43 rfl Try.sizeOf40 rfl rfl) <| g_do rfl rfl rfl rfl rfl h46 <| g_v rfl (r_field (n := 9) Try.underlying40 rfl Try.sizeOf38 rfl rfl) <| g_do rfl rfl rfl rfl rfl h46 <| g_v rfl (r_loadA (tag := 100030) rfl rfl Try.isAgg38 Try.sizeOf38 rfl rfl) <| g_do rfl rfl rfl rfl rfl h46 <| g_v rfl (r_field (n := 4) Try.underlying25 rfl Try.sizeOf3 rfl rfl) <| g_do rfl rfl rfl rfl rfl h46 ?_
       refine g_v rfl (r_load (tag := 100040) rfl rfl rfl Try.isAgg3) <| g_do rfl rfl rfl rfl rfl h46 <| g_v rfl (r_field (n := 5) Try.underlying25 rfl Try.sizeOf3 rfl rfl) <| g_do rfl rfl rfl rfl rfl h46 <| g_v rfl (r_load (tag := 100040) rfl rfl rfl Try.isAgg3) <| g_do rfl rfl rfl rfl rfl h46 ?_
       replace hm := bnd hm
       obtain ⟨x47, hx48, hm⟩ := hm
       refine g_cn ⟨w0, M, _, _, φ⟩ (fun _ h => h) Try.call57 rfl rfl (c_plog_Newer p0.fRaft.fHard.fLog Ap0_1 cp0_1 hcp0_1 (fun W hS => fp0_1 W hS.now) p1.fIndex p1.fLogTerm _ hx48) (fun _ _ => ?_)
       refine g_v rfl (r_pick1 rfl h46) <| g_v rfl r_assign <| g_nil ?_
       exact d_round x47 hm Nat.zero_lt_one ⟨rfl, rfl, rfl, rfl, rfl, trivial⟩ (fun W h => h.phi (fun W hφ => hφ))
      ·
       replace hm := ite_f hm (of_decide_eq_false h46)
       refine g_no rfl rfl rfl rfl rfl h46 <| g_no rfl rfl rfl rfl rfl h46 <| g_no rfl rfl rfl rfl rfl h46 <| g_no rfl rfl rfl rfl rfl h46 <| g_no rfl rfl rfl rfl rfl h46 <| g_no rfl rfl rfl rfl rfl h46 <| g_no rfl rfl rfl rfl rfl h46 <| g_no rfl rfl rfl rfl rfl h46 <| g_v rfl (r_pick0 rfl h46) <| g_v rfl r_assign ?_
       refine g_nil ?_
       exact d_round false hm Nat.zero_lt_one ⟨rfl, rfl, rfl, rfl, rfl, trivial⟩ (fun W h => h.phi (fun W hφ => hφ))
     ·
      replace hm := ite_f hm (of_decide_eq_false h45)
      refine g_no rfl rfl rfl rfl rfl h45 <| g_no rfl rfl rfl rfl rfl h45 <| g_no rfl rfl rfl rfl rfl h45 <| g_v rfl (r_pick0 rfl h45) <| g_v rfl r_move <| g_no rfl rfl rfl rfl rfl rfl <| g_no rfl rfl rfl rfl rfl rfl <| g_no rfl rfl rfl rfl rfl rfl <| g_no rfl rfl rfl rfl rfl rfl <| g_no rfl rfl rfl rfl rfl rfl ?_
      refine g_no rfl rfl rfl rfl rfl rfl <| g_no rfl rfl rfl rfl rfl rfl <| g_no rfl rfl rfl rfl rfl rfl <| g_no rfl rfl rfl rfl rfl rfl <| g_v rfl (r_pick0 rfl rfl) <| g_v rfl r_assign <| g_nil ?_
      exact d_round false hm Nat.zero_lt_one ⟨rfl, rfl, rfl, rfl, rfl, trivial⟩ (fun W h => h.phi (fun W hφ => hφ))
    ·
     replace hm := ite_t hm (of_decide_eq_true h44)
     refine g_no rfl rfl rfl rfl rfl h44 <| g_no rfl rfl rfl rfl rfl h44 <| g_no rfl rfl rfl rfl rfl h44 <| g_no rfl rfl rfl rfl rfl h44 <| g_no rfl rfl rfl rfl rfl h44 <| g_no rfl rfl rfl rfl rfl h44 <| g_no rfl rfl rfl rfl rfl h44 <| g_do rfl rfl rfl rfl rfl h43 <| g_v rfl (r_pick1 rfl h44) <| g_v rfl (r_pick1 rfl h43) ?_
     refine g_v rfl r_move <| g_do rfl rfl rfl rfl rfl rfl <| g_v rfl (r_field (n := 0) Try.underlying84 rfl Try.sizeOf43 rfl rfl) <| g_do rfl rfl rfl rfl rfl rfl <| g_v rfl (r_field (n := 1) Try.underlying43 rfl Try.sizeOf3 rfl rfl) <| g_do rfl rfl rfl rfl rfl rfl <| g_v rfl (r_load (tag := 100030) rfl rfl rfl Try.isAgg3) <| g_do rfl rfl rfl rfl rfl rfl <| g_v rfl (r_eql rfl rfl) <| g_v rfl (r_pick1 rfl rfl) ?_
     refine g_v rfl r_move ?_
     refine g_if rfl rfl rfl rfl rfl (fun h49 => ?_) (fun h49 => ?_)
     ·
      replace hm := ite_t hm (of_decide_eq_true h49)
      refine g_v rfl (r_field (n := 0) Try.underlying84 rfl Try.sizeOf43 rfl rfl) <| g_do rfl rfl rfl rfl rfl h49 <| g_v rfl (r_field (n := 5) Try.underlying43 rfl Try.sizeOf40 rfl rfl) <| g_do rfl rfl rfl rfl rfl h49 <| g_v rfl (r_field (n := 9) Try.underlying40 rfl Try.sizeOf38 rfl rfl) <| g_do rfl rfl rfl rfl rfl h49 <| g_v rfl (r_loadA (tag := 100030) rfl rfl Try.isAgg38 Try.sizeOf38 rfl rfl) <| g_do rfl rfl rfl rfl rfl h49 <| g_v rfl (r_field (n := 4) Try.underlying25 rfl Try.sizeOf3 rfl rfl) <| g_do rfl rfl rfl rfl rfl h49 ?_
      refine g_v rfl (r_load (tag := 100040) rfl rfl rfl Try.isAgg3) <| g_do rfl rfl rfl rfl rfl h49 <| g_v rfl (r_field (n := 5) Try.underlying25 rfl Try.sizeOf3 rfl rfl) <| g_do rfl rfl rfl rfl rfl h49 <| g_v rfl (r_load (tag := 100040) rfl rfl rfl Try.isAgg3) <| g_do rfl rfl rfl rfl rfl h49 ?_
      replace hm := bnd hm
      obtain ⟨x50, hx51, hm⟩ := hm
      refine g_cn ⟨w0, M, _, _, φ⟩ (fun _ h => h) Try.call57 rfl rfl (c_plog_Newer p0.fRaft.fHard.fLog Ap0_1 cp0_1 hcp0_1 (fun W hS => fp0_1 W hS.now) p1.fIndex p1.fLogTerm _ hx51) (fun _ _ => ?_)
      refine g_v rfl (r_pick1 rfl h49) <| g_v rfl r_assign <| g_nil ?_
      exact d_round x50 hm Nat.zero_lt_one ⟨rfl, rfl, rfl, rfl, rfl, trivial⟩ (fun W h => h.phi (fun W hφ => hφ))
     ·
      replace hm := ite_f hm (of_decide_eq_false h49)
      refine g_no rfl rfl rfl rfl rfl h49 <| g_no rfl rfl rfl rfl rfl h49 <| g_no rfl rfl rfl rfl rfl h49 <| g_no rfl rfl rfl rfl rfl h49 <| g_no rfl rfl rfl rfl rfl h49 <| g_no rfl rfl rfl rfl rfl h49 <| g_no rfl rfl rfl rfl rfl h49 <| g_no rfl rfl rfl rfl rfl h49 <| g_v rfl (r_pick0 rfl h49) <| g_v rfl r_assign ?_
      refine g_nil ?_
      exact d_round false hm Nat.zero_lt_one ⟨rfl, rfl, rfl, rfl, rfl, trivial⟩ (fun W h => h.phi (fun W hφ => hφ))
   ·
    have h43' : (decide (p1.fTerm < p0.fRaft.fHard.fTerm)) = true := by revert h43; cases (decide (p1.fTerm < p0.fRaft.fHard.fTerm)) <;> simp
    replace hm := ite_t hm (of_decide_eq_true h43')
    refine g_no rfl rfl rfl rfl rfl h43 <| g_no rfl rfl rfl rfl rfl h43 <| g_no rfl rfl rfl rfl rfl h43 <| g_no rfl rfl rfl rfl rfl h43 <| g_no rfl rfl rfl rfl rfl h43 <| g_nu rfl rfl rfl rfl rfl <| g_nu rfl rfl rfl rfl rfl <| g_nu rfl rfl rfl rfl rfl <| g_nu rfl rfl rfl rfl rfl <| g_nu rfl rfl rfl rfl rfl ?_
    refine g_nu rfl rfl rfl rfl rfl <| g_nu rfl rfl rfl rfl rfl <| g_nu rfl rfl rfl rfl rfl <| g_no rfl rfl rfl rfl rfl h43 <| g_v rfl (r_pick0 rfl h43) <| g_v rfl r_move <| g_no rfl rfl rfl rfl rfl rfl <| g_no rfl rfl rfl rfl rfl rfl <| g_no rfl rfl rfl rfl rfl rfl <| g_no rfl rfl rfl rfl rfl rfl ?_
    refine g_v rfl (r_pick0 rfl rfl) <| g_v rfl r_move <| g_no rfl rfl rfl rfl rfl rfl <| g_no rfl rfl rfl rfl rfl rfl <| g_no rfl rfl rfl rfl rfl rfl <| g_no rfl rfl rfl rfl rfl rfl <| g_no rfl rfl rfl rfl rfl rfl <| g_no rfl rfl rfl rfl rfl rfl <| g_no rfl rfl rfl rfl rfl rfl <| g_no rfl rfl rfl rfl rfl rfl ?_
    refine g_no rfl rfl rfl rfl rfl rfl <| g_v rfl (r_pick0 rfl rfl) <| g_v rfl r_assign <| g_nil ?_
    exact d_round false hm Nat.zero_lt_one ⟨rfl, rfl, rfl, rfl, rfl, trivial⟩ (fun W h => h.phi (fun W hφ => hφ))
  ·
   unfold m_raft_state_receive_j1 at hm
   refine d_flat [(2, .int .i64 p2), (3, .pointer (some ⟨g1, 0, none⟩)), (4, .pointer (some ⟨g2, 0, none⟩)), (6, .pointer (some ⟨g3, 0, none⟩)), (9, .bool b14)] ⟨rfl, rfl, rfl, rfl, rfl, trivial⟩ (fun u => ?_)
   refine d_then <| c_seq ?_
   refine c_cut (ι := Int × Int) [3, 4, 6, 9] (fun ⟨i16, i17⟩ => []) (fun ⟨i16, i17⟩ => ⟨w0, M, (100060, g3, .cells #[.int .i64 0, .int .i64 0, .int .i64 0, .int .i64 0, .int .i64 0, .int .i64 0, .int .i64 0, .slice none 0 0, .string (⟨#[]⟩ : ByteArray), .int .i64 0, .int .i64 0, .slice none 0 0, .slice none 0 0, .slice none 0 0] 84 (0, 0)) :: (100040, g2, .cells #[.int .i64 p1.fKind, .int .i64 p1.fFrom, .int .i64 p1.fTo, .int .i64 p1.fTerm, .int .i64 p1.fIndex, .int .i64 p1.fLogTerm, .int .i64 p1.fCommit, .bool p1.fGood, .slice Ap1_0 p1.fEntries.length cp1_0, .slice Ap1_1 p1.fVoters.length cp1_1, .string p1.fSnap] 25 (0, 0)) :: (100030, g1, .cells #[.int .i64 p0.fRaft.fMe, .int .i64 p0.fRaft.fRole, .int .i64 p0.fRaft.fLeader, .int .i64 p0.fRaft.fCommit, .int .i64 i16, .int .i64 p0.fRaft.fHard.fTerm, .int .i64 i17, .slice Ap0_0 p0.fRaft.fHard.fVoters.length cp0_0, .string p0.fRaft.fHard.fSnap, .int .i64 p0.fRaft.fHard.fLog.fBase, .int .i64 p0.fRaft.fHard.fLog.fBaseTerm, .slice Ap0_1 p0.fRaft.fHard.fLog.fEntries.length cp0_1, .slice Ap0_2 p0.fRaft.fVotes.length cp0_2, .slice Ap0_3 p0.fRaft.fMarks.length cp0_3] 84 (0, 0)) :: H, R, φ⟩) (fun ⟨i16, i17⟩ => m_raft_state_receive_j2 p0 p1 b14 i16 i17 = some r) ?_ (fun ⟨i16, i17⟩ u hm => ?_)
   ·
    refine c_seq <| c_region <| g_v rfl r_move <| g_nil <| d_then ?_
    refine c_cond rfl (fun h42 => ?_) (fun h42 => ?_)
    ·
     replace hm := ite_t hm h42
     refine c_region <| g_v rfl (r_field (n := 1) Try.underlying25 rfl Try.sizeOf3 rfl rfl) <| g_v rfl (r_load (tag := 100040) rfl rfl rfl Try.isAgg3) <| g_v rfl (r_add rfl rfl rfl) <| g_v rfl r_move <| g_v rfl (r_field (n := 0) Try.underlying84 rfl Try.sizeOf43 rfl rfl) <| g_v rfl (r_field (n := 5) Try.underlying43 rfl Try.sizeOf40 rfl rfl) <| g_v rfl (r_field (n := 6) Try.underlying40 rfl Try.sizeOf3 rfl rfl) <| g_storeL (tag := 100030) rfl rfl rfl rfl Try.sizeOf3 rfl rfl <| g_v rfl (r_field (n := 0) Try.underlying84 rfl Try.sizeOf43 rfl rfl) ?_
     refine g_v rfl (r_field (n := 4) Try.underlying43 rfl Try.sizeOf3 rfl rfl) <| g_storeL (tag := 100030) rfl rfl rfl rfl Try.sizeOf3 rfl rfl <| g_nil ?_
     exact d_round (p2, w64 (p1.fFrom + 1)) hm Nat.zero_lt_one ⟨rfl, rfl, rfl, rfl, trivial⟩ (fun W h => h.phi (fun W hφ => hφ))
    ·
     replace hm := ite_f hm (bool_nt h42)
     refine c_skip ?_
     exact d_round (p0.fRaft.fLeft, p0.fRaft.fHard.fVote) hm Nat.zero_lt_one ⟨rfl, rfl, rfl, rfl, trivial⟩ (fun W h => h.phi (fun W hφ => hφ))
   ·
    unfold m_raft_state_receive_j2 at hm
    refine d_flat [(3, .pointer (some ⟨g1, 0, none⟩)), (4, .pointer (some ⟨g2, 0, none⟩)), (6, .pointer (some ⟨g3, 0, none⟩)), (9, .bool b14)] ⟨rfl, rfl, rfl, rfl, trivial⟩ (fun u => ?_)
    refine d_sta ⟨w0, M, (100060, g3, .cells #[.int .i64 0, .int .i64 0, .int .i64 0, .int .i64 0, .int .i64 0, .int .i64 0, .int .i64 0, .slice none 0 0, .string (⟨#[]⟩ : ByteArray), .int .i64 0, .int .i64 0, .slice none 0 0, .slice none 0 0, .slice none 0 0] 84 (0, 0)) :: (100040, g2, .cells #[.int .i64 p1.fKind, .int .i64 p1.fFrom, .int .i64 p1.fTo, .int .i64 p1.fTerm, .int .i64 p1.fIndex, .int .i64 p1.fLogTerm, .int .i64 p1.fCommit, .bool p1.fGood, .slice Ap1_0 p1.fEntries.length cp1_0, .slice Ap1_1 p1.fVoters.length cp1_1, .string p1.fSnap] 25 (0, 0)) :: (100030, g1, .cells #[.int .i64 p0.fRaft.fMe, .int .i64 p0.fRaft.fRole, .int .i64 p0.fRaft.fLeader, .int .i64 p0.fRaft.fCommit, .int .i64 i16, .int .i64 p0.fRaft.fHard.fTerm, .int .i64 i17, .slice Ap0_0 p0.fRaft.fHard.fVoters.length cp0_0, .string p0.fRaft.fHard.fSnap, .int .i64 p0.fRaft.fHard.fLog.fBase, .int .i64 p0.fRaft.fHard.fLog.fBaseTerm, .slice Ap0_1 p0.fRaft.fHard.fLog.fEntries.length cp0_1, .slice Ap0_2 p0.fRaft.fVotes.length cp0_2, .slice Ap0_3 p0.fRaft.fMarks.length cp0_3] 84 (0, 0)) :: H, R, φ⟩ (fun _ h => h) <| d_then <| c_seq <| ga_start (n := 7) ⟨w0, M, (100060, g3, .cells #[.int .i64 0, .int .i64 0, .int .i64 0, .int .i64 0, .int .i64 0, .int .i64 0, .int .i64 0, .slice none 0 0, .string (⟨#[]⟩ : ByteArray), .int .i64 0, .int .i64 0, .slice none 0 0, .slice none 0 0, .slice none 0 0] 84 (0, 0)) :: (100040, g2, .cells #[.int .i64 p1.fKind, .int .i64 p1.fFrom, .int .i64 p1.fTo, .int .i64 p1.fTerm, .int .i64 p1.fIndex, .int .i64 p1.fLogTerm, .int .i64 p1.fCommit, .bool p1.fGood, .slice Ap1_0 p1.fEntries.length cp1_0, .slice Ap1_1 p1.fVoters.length cp1_1, .string p1.fSnap] 25 (0, 0)) :: (100030, g1, .cells #[.int .i64 p0.fRaft.fMe, .int .i64 p0.fRaft.fRole, .int .i64 p0.fRaft.fLeader, .int .i64 p0.fRaft.fCommit, .int .i64 i16, .int .i64 p0.fRaft.fHard.fTerm, .int .i64 i17, .slice Ap0_0 p0.fRaft.fHard.fVoters.length cp0_0, .string p0.fRaft.fHard.fSnap, .int .i64 p0.fRaft.fHard.fLog.fBase, .int .i64 p0.fRaft.fHard.fLog.fBaseTerm, .slice Ap0_1 p0.fRaft.fHard.fLog.fEntries.length cp0_1, .slice Ap0_2 p0.fRaft.fVotes.length cp0_2, .slice Ap0_3 p0.fRaft.fMarks.length cp0_3] 84 (0, 0)) :: H, R, φ⟩ [5] #[false, false, false, false, false, false, false] (fun W h => h.phi (fun W hφ => hφ)) mixed rfl rfl <| ga_v (i := 0) (bz 7 1) rfl (by kernel_rfl) (fun _ _ _ _ h => h) rfl (r_loadA (tag := 100030) rfl rfl Try.isAgg84 Try.sizeOf84 rfl rfl) <| ga_v (i := 1) (bz 7 3) rfl (by kernel_rfl) (fun _ _ _ _ h => h) rfl (r_loadA (tag := 100030) rfl rfl Try.isAgg84 Try.sizeOf84 rfl rfl) <| ga_v (i := 2) (bz 7 7) rfl (by kernel_rfl) (fun _ _ _ _ h => h) rfl (r_loadA (tag := 100040) rfl rfl Try.isAgg25 Try.sizeOf25 rfl rfl) <| ga_r (i := 3) (bz 7 15) rfl (by kernel_rfl) (by decide) rfl (r_move) ?_
    replace hm := bnd hm
    obtain ⟨x34, hx35, hm⟩ := hm
    refine ga_cn (first := #[]) (i := 4) (bz 7 31) rfl (by kernel_rfl) (by decide)  ⟨w0, M, _, _, φ⟩ (fun _ h => h) Try.call58 rfl rfl rfl (c_raft_state_answers (⟨(⟨p0.fRaft.fMe, p0.fRaft.fRole, p0.fRaft.fLeader, p0.fRaft.fCommit, i16, (⟨p0.fRaft.fHard.fTerm, i17, p0.fRaft.fHard.fVoters, p0.fRaft.fHard.fSnap, p0.fRaft.fHard.fLog⟩ : GHard), p0.fRaft.fVotes, p0.fRaft.fMarks⟩ : GRaft)⟩ : Graft_state) Ap0_0 cp0_0 hcp0_0 (fun W hS => fp0_0 W hS.now) Ap0_1 cp0_1 hcp0_1 (fun W hS => fp0_1 W hS.now) Ap0_2 cp0_2 hcp0_2 (fun W hS => fp0_2 W hS.now) Ap0_3 cp0_3 hcp0_3 (fun W hS => fp0_3 W hS.now) p1 Ap1_0 cp1_0 hcp1_0 (fun W hS => fp1_0 W hS.now) Ap1_1 cp1_1 hcp1_1 (fun W hS => fp1_1 W hS.now) 2 0 b14 _ hx35) (fun ⟨A36, c37, ps39⟩ W hc37 h => (((ok_frontR (t := 2000) (t' := 100710) h rfl).phi (fun _ hh => hh.1)).dropR (t := 100710) rfl).phi (fun W hφ => hφ)) (fun ⟨A36, c37, ps39⟩ hc37 => ?_)
    refine ga_sta _ (fun W h => (ok_frontR (t := 2000) (t' := 100710) h rfl)) ?_
    refine ga_abs (fun φ41 q41' => ?_)
    have q41 : ∀ W, φ41 W → φ W := fun W h => (q41' W h).1
    have f40 := fun (W : World) (h : φ41 W) => (q41' W h).2
    refine ga_lastL (i := 5) (tag := 100060) (bz 7 63) rfl (by kernel_rfl) (by decide) rfl rfl rfl rfl Try.sizeOf84 rfl rfl <| gz_p (i := 6) (bz 7 127) rfl (.inr rfl) (by kernel_rfl) (fun _ _ _ _ h => h) rfl <| gz_done (by kernel_rfl) <| d_then <| c_ret <| d_ret_block <| d_ret_then ?_
    replace hm := Option.some.inj hm
    subst hm
    refine d_sta _ (fun W h => ok_frontR (t := 100710) (t' := 2004) h rfl) ?_
    refine d_retC (Ap0_0, cp0_0, Ap0_1, cp0_1, Ap0_2, cp0_2, Ap0_3, cp0_3, A36, c37, ps39) Try.results38 ?_ ⟨hcp0_0, hcp0_1, hcp0_2, hcp0_3, ⟨hc37.1, hc37.2⟩⟩ (fun W h => (((h.dropH (t := 100060) rfl).dropH (t := 100040) rfl).dropH (t := 100030) rfl).phi (fun W hφ => ⟨(q41 _ hφ), (fun W h => fp0_0 W (q41 _ h)) W hφ, (fun W h => fp0_1 W (q41 _ h)) W hφ, (fun W h => fp0_2 W (q41 _ h)) W hφ, (fun W h => fp0_3 W (q41 _ h)) W hφ, (fun W h => (f40 W h)) W hφ⟩)) (.inr rfl)
    refine res_agg (tag := 100060) rfl rfl Try.isAgg84 Try.sizeOf84 <| res_tmp <| res_nil ?_
    exact rfl
 ·
  replace hm := ite_f hm (of_decide_eq_false h4)
  refine c_seq <| c_region <| g_v rfl (r_eql rfl rfl) <| g_v rfl r_assign <| g_nil <| d_then ?_
  refine c_cond rfl (fun h52 => ?_) (fun h52 => ?_)
  ·
   replace hm := ite_t hm (of_decide_eq_true h52)
   refine c_seq <| c_seq <| ga_start (n := 20) ⟨w0, M, (100060, g3, .cells #[.int .i64 0, .int .i64 0, .int .i64 0, .int .i64 0, .int .i64 0, .int .i64 0, .int .i64 0, .slice none 0 0, .string (⟨#[]⟩ : ByteArray), .int .i64 0, .int .i64 0, .slice none 0 0, .slice none 0 0, .slice none 0 0] 84 (0, 0)) :: (100040, g2, .cells #[.int .i64 p1.fKind, .int .i64 p1.fFrom, .int .i64 p1.fTo, .int .i64 p1.fTerm, .int .i64 p1.fIndex, .int .i64 p1.fLogTerm, .int .i64 p1.fCommit, .bool p1.fGood, .slice Ap1_0 p1.fEntries.length cp1_0, .slice Ap1_1 p1.fVoters.length cp1_1, .string p1.fSnap] 25 (0, 0)) :: (100030, g1, .cells #[.int .i64 p0.fRaft.fMe, .int .i64 p0.fRaft.fRole, .int .i64 p0.fRaft.fLeader, .int .i64 p0.fRaft.fCommit, .int .i64 p0.fRaft.fLeft, .int .i64 p0.fRaft.fHard.fTerm, .int .i64 p0.fRaft.fHard.fVote, .slice Ap0_0 p0.fRaft.fHard.fVoters.length cp0_0, .string p0.fRaft.fHard.fSnap, .int .i64 p0.fRaft.fHard.fLog.fBase, .int .i64 p0.fRaft.fHard.fLog.fBaseTerm, .slice Ap0_1 p0.fRaft.fHard.fLog.fEntries.length cp0_1, .slice Ap0_2 p0.fRaft.fVotes.length cp0_2, .slice Ap0_3 p0.fRaft.fMarks.length cp0_3] 84 (0, 0)) :: H, R, φ⟩ [] #[false, false, false, false, false, false, false, false, false, false, false, false, false, false, false, false, false, false, false, false] (fun W h => h.phi (fun W hφ => hφ)) mixed rfl rfl <| ga_r (i := 0) (bz 20 1) rfl (by kernel_rfl) (by decide) rfl (r_move) <| ga_r (i := 1) (bz 20 3) rfl (by kernel_rfl) (by decide) rfl (r_move) ?_
   refine ga_if (t := 75) rfl (fun h73 => ?_) (fun h73 => ?_)
   ·
    replace hm := ite_t hm (of_decide_eq_true h73)
    refine ga_no (i := 2) (bz 20 7) rfl (by kernel_rfl) (fun _ _ _ _ h => h) rfl rfl rfl rfl rfl h73 <| ga_no (i := 3) (bz 20 15) rfl (by kernel_rfl) (fun _ _ _ _ h => h) rfl rfl rfl rfl rfl h73 <| ga_no (i := 4) (bz 20 31) rfl (by kernel_rfl) (fun _ _ _ _ h => h) rfl rfl rfl rfl rfl h73 <| ga_no (i := 5) (bz 20 63) rfl (by kernel_rfl) (fun _ _ _ _ h => h) rfl rfl rfl rfl rfl h73 <| ga_r (i := 6) (bz 20 127) rfl (by kernel_rfl) (by decide) rfl (r_pick1 rfl h73) <| ga_r (i := 7) (bz 20 255) rfl (by kernel_rfl) (by decide) rfl (r_move) <| ga_no (i := 8) (bz 20 511) rfl (by kernel_rfl) (fun _ _ _ _ h => h) rfl rfl rfl rfl rfl rfl <| ga_no (i := 9) (bz 20 1023) rfl (by kernel_rfl) (fun _ _ _ _ h => h) rfl rfl rfl rfl rfl rfl <| ga_no (i := 10) (bz 20 2047) rfl (by kernel_rfl) (fun _ _ _ _ h => h) rfl rfl rfl rfl rfl rfl <| ga_r (i := 11) (bz 20 4095) rfl (by kernel_rfl) (by decide) rfl (r_pick1 rfl rfl) ?_
    refine ga_r (i := 12) (bz 20 8191) rfl (by kernel_rfl) (by decide) rfl (r_move) <| ga_no (i := 13) (bz 20 16383) rfl (by kernel_rfl) (fun _ _ _ _ h => h) rfl rfl rfl rfl rfl rfl <| ga_no (i := 14) (bz 20 32767) rfl (by kernel_rfl) (fun _ _ _ _ h => h) rfl rfl rfl rfl rfl rfl <| ga_no (i := 15) (bz 20 65535) rfl (by kernel_rfl) (fun _ _ _ _ h => h) rfl rfl rfl rfl rfl rfl <| ga_no (i := 16) (bz 20 131071) rfl (by kernel_rfl) (fun _ _ _ _ h => h) rfl rfl rfl rfl rfl rfl <| ga_no (i := 17) (bz 20 262143) rfl (by kernel_rfl) (fun _ _ _ _ h => h) rfl rfl rfl rfl rfl rfl <| ga_no (i := 18) (bz 20 524287) rfl (by kernel_rfl) (fun _ _ _ _ h => h) rfl rfl rfl rfl rfl rfl <| ga_r (i := 19) (bz 20 1048575) rfl (by kernel_rfl) (by decide) rfl (r_pick1 rfl rfl) <| ga_done (by kernel_rfl) <| d_then ?_
    refine c_flat [(3, .pointer (some ⟨g1, 0, none⟩)), (4, .pointer (some ⟨g2, 0, none⟩)), (6, .pointer (some ⟨g3, 0, none⟩)), (93, .bool true)] ⟨rfl, rfl, rfl, rfl, trivial⟩ (fun u => ?_)
    refine c_cond1 rfl rfl <| c_seq <| c_region <| g_v rfl (r_loadA (tag := 100030) rfl rfl Try.isAgg84 Try.sizeOf84 rfl rfl) <| g_storeL (tag := 100060) rfl rfl rfl rfl Try.sizeOf84 rfl rfl <| g_v rfl r_assign <| g_nil <| d_then <| c_ret <| d_ret_then ?_
    refine d_ret_block <| d_ret_then ?_
    replace hm := Option.some.inj hm
    subst hm
    refine d_sta _ (fun W h => nilR h 11 25 11) <| d_sta _ (fun W h => ok_frontR (t := 11) (t' := 2004) h rfl) ?_
    refine d_retC (Ap0_0, cp0_0, Ap0_1, cp0_1, Ap0_2, cp0_2, Ap0_3, cp0_3, none, 0, ([] : List GNoteP)) Try.results38 ?_ ⟨hcp0_0, hcp0_1, hcp0_2, hcp0_3, ⟨DOk.nil, (Nat.le_refl 0)⟩⟩ (fun W h => (((h.dropH (t := 100060) rfl).dropH (t := 100040) rfl).dropH (t := 100030) rfl).phi (fun W hφ => ⟨hφ, (fun W h => fp0_0 W h) W hφ, (fun W h => fp0_1 W h) W hφ, (fun W h => fp0_2 W h) W hφ, (fun W h => fp0_3 W h) W hφ, (fun W h => DOwn.nil) W hφ⟩)) (.inr rfl)
    refine res_agg (tag := 100060) rfl rfl Try.isAgg84 Try.sizeOf84 <| res_tmp <| res_nil ?_
    exact rfl
   ·
    replace hm := ite_f hm (of_decide_eq_false h73)
    refine ga_rG (i := 2) (bz 20 7) rfl (by kernel_rfl) (by decide) rfl rfl rfl rfl rfl h73 (r_field (n := 0) Try.underlying84 rfl Try.sizeOf43 rfl rfl) <| ga_rG (i := 3) (bz 20 15) rfl (by kernel_rfl) (by decide) rfl rfl rfl rfl rfl h73 (r_field (n := 1) Try.underlying43 rfl Try.sizeOf3 rfl rfl) <| ga_rG (i := 4) (bz 20 31) rfl (by kernel_rfl) (by decide) rfl rfl rfl rfl rfl h73 (r_load (tag := 100030) rfl rfl rfl Try.isAgg3) <| ga_rG (i := 5) (bz 20 63) rfl (by kernel_rfl) (by decide) rfl rfl rfl rfl rfl h73 (r_neq rfl rfl) <| ga_r (i := 6) (bz 20 127) rfl (by kernel_rfl) (by decide) rfl (r_pick0 rfl h73) <| ga_r (i := 7) (bz 20 255) rfl (by kernel_rfl) (by decide) rfl (r_move) ?_
    refine ga_if (t := 81) rfl (fun h74 => ?_) (fun h74 => ?_)
    ·
     replace hm := ite_t hm (of_decide_eq_true h74)
     refine ga_no (i := 8) (bz 20 511) rfl (by kernel_rfl) (fun _ _ _ _ h => h) rfl rfl rfl rfl rfl h74 <| ga_no (i := 9) (bz 20 1023) rfl (by kernel_rfl) (fun _ _ _ _ h => h) rfl rfl rfl rfl rfl h74 <| ga_no (i := 10) (bz 20 2047) rfl (by kernel_rfl) (fun _ _ _ _ h => h) rfl rfl rfl rfl rfl h74 <| ga_r (i := 11) (bz 20 4095) rfl (by kernel_rfl) (by decide) rfl (r_pick1 rfl h74) <| ga_r (i := 12) (bz 20 8191) rfl (by kernel_rfl) (by decide) rfl (r_move) <| ga_no (i := 13) (bz 20 16383) rfl (by kernel_rfl) (fun _ _ _ _ h => h) rfl rfl rfl rfl rfl rfl <| ga_no (i := 14) (bz 20 32767) rfl (by kernel_rfl) (fun _ _ _ _ h => h) rfl rfl rfl rfl rfl rfl <| ga_no (i := 15) (bz 20 65535) rfl (by kernel_rfl) (fun _ _ _ _ h => h) rfl rfl rfl rfl rfl rfl <| ga_no (i := 16) (bz 20 131071) rfl (by kernel_rfl) (fun _ _ _ _ h => h) rfl rfl rfl rfl rfl rfl <| ga_no (i := 17) (bz 20 262143) rfl (by kernel_rfl) (fun _ _ _ _ h => h) rfl rfl rfl rfl rfl rfl ?_
     refine ga_no (i := 18) (bz 20 524287) rfl (by kernel_rfl) (fun _ _ _ _ h => h) rfl rfl rfl rfl rfl rfl <| ga_r (i := 19) (bz 20 1048575) rfl (by kernel_rfl) (by decide) rfl (r_pick1 rfl rfl) <| ga_done (by kernel_rfl) <| d_then ?_
     refine c_flat [(3, .pointer (some ⟨g1, 0, none⟩)), (4, .pointer (some ⟨g2, 0, none⟩)), (6, .pointer (some ⟨g3, 0, none⟩)), (93, .bool true)] ⟨rfl, rfl, rfl, rfl, trivial⟩ (fun u => ?_)
     refine c_cond1 rfl rfl <| c_seq <| c_region <| g_v rfl (r_loadA (tag := 100030) rfl rfl Try.isAgg84 Try.sizeOf84 rfl rfl) <| g_storeL (tag := 100060) rfl rfl rfl rfl Try.sizeOf84 rfl rfl <| g_v rfl r_assign <| g_nil <| d_then <| c_ret <| d_ret_then ?_
     refine d_ret_block <| d_ret_then ?_
     replace hm := Option.some.inj hm
     subst hm
     refine d_sta _ (fun W h => nilR h 12 25 11) <| d_sta _ (fun W h => ok_frontR (t := 12) (t' := 2004) h rfl) ?_
     refine d_retC (Ap0_0, cp0_0, Ap0_1, cp0_1, Ap0_2, cp0_2, Ap0_3, cp0_3, none, 0, ([] : List GNoteP)) Try.results38 ?_ ⟨hcp0_0, hcp0_1, hcp0_2, hcp0_3, ⟨DOk.nil, (Nat.le_refl 0)⟩⟩ (fun W h => (((h.dropH (t := 100060) rfl).dropH (t := 100040) rfl).dropH (t := 100030) rfl).phi (fun W hφ => ⟨hφ, (fun W h => fp0_0 W h) W hφ, (fun W h => fp0_1 W h) W hφ, (fun W h => fp0_2 W h) W hφ, (fun W h => fp0_3 W h) W hφ, (fun W h => DOwn.nil) W hφ⟩)) (.inr rfl)
     refine res_agg (tag := 100060) rfl rfl Try.isAgg84 Try.sizeOf84 <| res_tmp <| res_nil ?_
     exact rfl
    ·
     replace hm := ite_f hm (of_decide_eq_false h74)
     refine ga_rG (i := 8) (bz 20 511) rfl (by kernel_rfl) (by decide) rfl rfl rfl rfl rfl h74 (r_field (n := 7) Try.underlying25 rfl Try.sizeOf4 rfl rfl) <| ga_rG (i := 9) (bz 20 1023) rfl (by kernel_rfl) (by decide) rfl rfl rfl rfl rfl h74 (r_load (tag := 100040) rfl rfl rfl Try.isAgg4) <| ga_rG (i := 10) (bz 20 2047) rfl (by kernel_rfl) (by decide) rfl rfl rfl rfl rfl h74 (r_not rfl) <| ga_r (i := 11) (bz 20 4095) rfl (by kernel_rfl) (by decide) rfl (r_pick0 rfl h74) <| ga_r (i := 12) (bz 20 8191) rfl (by kernel_rfl) (by decide) rfl (r_move) ?_
     refine ga_if (t := 86) rfl (fun h75 => ?_) (fun h75 => ?_)
     ·
      have h75' : p1.fGood = false := by revert h75; cases p1.fGood <;> simp
      replace hm := ite_f hm (bool_nt h75')
      refine ga_no (i := 13) (bz 20 16383) rfl (by kernel_rfl) (fun _ _ _ _ h => h) rfl rfl rfl rfl rfl h75 <| ga_no (i := 14) (bz 20 32767) rfl (by kernel_rfl) (fun _ _ _ _ h => h) rfl rfl rfl rfl rfl h75 <| ga_no (i := 15) (bz 20 65535) rfl (by kernel_rfl) (fun _ _ _ _ h => h) rfl rfl rfl rfl rfl h75 <| ga_no (i := 16) (bz 20 131071) rfl (by kernel_rfl) (fun _ _ _ _ h => h) rfl rfl rfl rfl rfl h75 <| ga_no (i := 17) (bz 20 262143) rfl (by kernel_rfl) (fun _ _ _ _ h => h) rfl rfl rfl rfl rfl h75 <| ga_no (i := 18) (bz 20 524287) rfl (by kernel_rfl) (fun _ _ _ _ h => h) rfl rfl rfl rfl rfl h75 <| ga_r (i := 19) (bz 20 1048575) rfl (by kernel_rfl) (by decide) rfl (r_pick1 rfl h75) <| ga_done (by kernel_rfl) <| d_then ?_
      refine c_flat [(3, .pointer (some ⟨g1, 0, none⟩)), (4, .pointer (some ⟨g2, 0, none⟩)), (6, .pointer (some ⟨g3, 0, none⟩)), (93, .bool true)] ⟨rfl, rfl, rfl, rfl, trivial⟩ (fun u => ?_)
      refine c_cond1 rfl rfl <| c_seq <| c_region <| g_v rfl (r_loadA (tag := 100030) rfl rfl Try.isAgg84 Try.sizeOf84 rfl rfl) <| g_storeL (tag := 100060) rfl rfl rfl rfl Try.sizeOf84 rfl rfl <| g_v rfl r_assign <| g_nil <| d_then <| c_ret <| d_ret_then ?_
      refine d_ret_block <| d_ret_then ?_
      replace hm := Option.some.inj hm
      subst hm
      refine d_sta _ (fun W h => nilR h 13 25 11) <| d_sta _ (fun W h => ok_frontR (t := 13) (t' := 2004) h rfl) ?_
      refine d_retC (Ap0_0, cp0_0, Ap0_1, cp0_1, Ap0_2, cp0_2, Ap0_3, cp0_3, none, 0, ([] : List GNoteP)) Try.results38 ?_ ⟨hcp0_0, hcp0_1, hcp0_2, hcp0_3, ⟨DOk.nil, (Nat.le_refl 0)⟩⟩ (fun W h => (((h.dropH (t := 100060) rfl).dropH (t := 100040) rfl).dropH (t := 100030) rfl).phi (fun W hφ => ⟨hφ, (fun W h => fp0_0 W h) W hφ, (fun W h => fp0_1 W h) W hφ, (fun W h => fp0_2 W h) W hφ, (fun W h => fp0_3 W h) W hφ, (fun W h => DOwn.nil) W hφ⟩)) (.inr rfl)
      refine res_agg (tag := 100060) rfl rfl Try.isAgg84 Try.sizeOf84 <| res_tmp <| res_nil ?_
      exact rfl
     ·
      have h75' : p1.fGood = true := by revert h75; cases p1.fGood <;> simp
      replace hm := ite_t hm h75'
      refine ga_do (i := 13) (bz 20 16383) rfl (by kernel_rfl) (fun _ _ _ _ h => h) rfl rfl rfl rfl rfl h75 (r_loadA (tag := 100030) rfl rfl Try.isAgg84 Try.sizeOf84 rfl rfl) <| ga_do (i := 15) (bz 20 49151) rfl (by kernel_rfl) (fun _ _ _ _ h => h) rfl rfl rfl rfl rfl h75 (r_field (n := 1) Try.underlying25 rfl Try.sizeOf3 rfl rfl) <| ga_do (i := 16) (bz 20 114687) rfl (by kernel_rfl) (fun _ _ _ _ h => h) rfl rfl rfl rfl rfl h75 (r_load (tag := 100040) rfl rfl rfl Try.isAgg3) ?_
      replace hm := bnd hm
      obtain ⟨x76, hx77, hm⟩ := hm
      refine ga_cnG (first := #[]) (i := 14) (bz 20 131071) rfl (by kernel_rfl) (by decide) rfl rfl rfl rfl h75  ⟨w0, M, _, _, φ⟩ (fun _ h => h) Try.call40 rfl rfl rfl (c_raft_state_voters p0 Ap0_0 cp0_0 hcp0_0 (fun W hS => fp0_0 W hS.now) Ap0_1 cp0_1 hcp0_1 (fun W hS => fp0_1 W hS.now) Ap0_2 cp0_2 hcp0_2 (fun W hS => fp0_2 W hS.now) Ap0_3 cp0_3 hcp0_3 (fun W hS => fp0_3 W hS.now) _ hx77) (fun ⟨A78, c79⟩ W hc79 h => ((ok_frontR (t := 2000) (t' := 100880) h rfl).dropR (t := 100880) rfl).phi (fun W hφ => hφ)) (fun ⟨A78, c79⟩ hc79 => ?_)
      refine ga_sta _ (fun W h => (ok_frontR (t := 2000) (t' := 100880) h rfl)) ?_
      replace hm := bnd hm
      obtain ⟨x81, hx82, hm⟩ := hm
      refine ga_cnG (first := #[]) (i := 17) (bz 20 262143) rfl (by kernel_rfl) (by decide) rfl rfl rfl rfl h75  ⟨w0, M, _, _, φ⟩ (fun _ h => h) Try.call35 rfl rfl rfl (c_slices_Contains_35 x76 A78 c79 hc79 (fun W hS => rowCl (tag := 100880) rfl W hS) p1.fFrom _ hx82) (fun _ W _ h => (h.dropR (t := 100880) rfl).phi (fun W hφ => hφ)) (fun _ _ => ?_)
      refine ga_rG (i := 18) (bz 20 524287) rfl (by kernel_rfl) (by decide) rfl rfl rfl rfl rfl h75 (r_not rfl) <| ga_r (i := 19) (bz 20 1048575) rfl (by kernel_rfl) (by decide) rfl (r_pick0 rfl h75) <| ga_done (by kernel_rfl) <| d_then ?_
      refine c_flat [(3, .pointer (some ⟨g1, 0, none⟩)), (4, .pointer (some ⟨g2, 0, none⟩)), (6, .pointer (some ⟨g3, 0, none⟩)), (93, .bool (!x81))] ⟨rfl, rfl, rfl, rfl, trivial⟩ (fun u => ?_)
      refine c_sta ⟨w0, M, (100060, g3, .cells #[.int .i64 0, .int .i64 0, .int .i64 0, .int .i64 0, .int .i64 0, .int .i64 0, .int .i64 0, .slice none 0 0, .string (⟨#[]⟩ : ByteArray), .int .i64 0, .int .i64 0, .slice none 0 0, .slice none 0 0, .slice none 0 0] 84 (0, 0)) :: (100040, g2, .cells #[.int .i64 p1.fKind, .int .i64 p1.fFrom, .int .i64 p1.fTo, .int .i64 p1.fTerm, .int .i64 p1.fIndex, .int .i64 p1.fLogTerm, .int .i64 p1.fCommit, .bool p1.fGood, .slice Ap1_0 p1.fEntries.length cp1_0, .slice Ap1_1 p1.fVoters.length cp1_1, .string p1.fSnap] 25 (0, 0)) :: (100030, g1, .cells #[.int .i64 p0.fRaft.fMe, .int .i64 p0.fRaft.fRole, .int .i64 p0.fRaft.fLeader, .int .i64 p0.fRaft.fCommit, .int .i64 p0.fRaft.fLeft, .int .i64 p0.fRaft.fHard.fTerm, .int .i64 p0.fRaft.fHard.fVote, .slice Ap0_0 p0.fRaft.fHard.fVoters.length cp0_0, .string p0.fRaft.fHard.fSnap, .int .i64 p0.fRaft.fHard.fLog.fBase, .int .i64 p0.fRaft.fHard.fLog.fBaseTerm, .slice Ap0_1 p0.fRaft.fHard.fLog.fEntries.length cp0_1, .slice Ap0_2 p0.fRaft.fVotes.length cp0_2, .slice Ap0_3 p0.fRaft.fMarks.length cp0_3] 84 (0, 0)) :: H, (100880, ⟨.slice A78 x76.length c79, 3, 1, x76.length, x76.flatMap (fun x : Int => [Value.int .i64 x])⟩) :: R, φ⟩ (fun _ h => h) ?_
      refine c_cond rfl (fun h83 => ?_) (fun h83 => ?_)
      ·
       have h83' : x81 = false := by revert h83; cases x81 <;> simp
       replace hm := ite_f hm (bool_nt h83')
       refine c_seq <| c_region <| g_v rfl (r_loadA (tag := 100030) rfl rfl Try.isAgg84 Try.sizeOf84 rfl rfl) <| g_storeL (tag := 100060) rfl rfl rfl rfl Try.sizeOf84 rfl rfl <| g_v rfl r_assign <| g_nil <| d_then <| c_ret <| d_ret_then <| d_ret_block ?_
       refine d_ret_then ?_
       replace hm := Option.some.inj hm
       subst hm
       refine d_sta _ (fun W h => nilR h 14 25 11) <| d_sta _ (fun W h => ok_frontR (t := 14) (t' := 2004) h rfl) ?_
       refine d_retC (Ap0_0, cp0_0, Ap0_1, cp0_1, Ap0_2, cp0_2, Ap0_3, cp0_3, none, 0, ([] : List GNoteP)) Try.results38 ?_ ⟨hcp0_0, hcp0_1, hcp0_2, hcp0_3, ⟨DOk.nil, (Nat.le_refl 0)⟩⟩ (fun W h => ((((h.dropR (t := 100880) rfl).dropH (t := 100060) rfl).dropH (t := 100040) rfl).dropH (t := 100030) rfl).phi (fun W hφ => ⟨hφ, (fun W h => fp0_0 W h) W hφ, (fun W h => fp0_1 W h) W hφ, (fun W h => fp0_2 W h) W hφ, (fun W h => fp0_3 W h) W hφ, (fun W h => DOwn.nil) W hφ⟩)) (.inr rfl)
       refine res_agg (tag := 100060) rfl rfl Try.isAgg84 Try.sizeOf84 <| res_tmp <| res_nil ?_
       exact rfl
      ·
       have h83' : x81 = true := by revert h83; cases x81 <;> simp
       replace hm := ite_t hm h83'
       refine c_skip <| d_then <| c_seq <| c_region <| g_v rfl (r_loadA (tag := 100030) rfl rfl Try.isAgg84 Try.sizeOf84 rfl rfl) <| g_v rfl (r_field (n := 1) Try.underlying25 rfl Try.sizeOf3 rfl rfl) <| g_v rfl (r_load (tag := 100040) rfl rfl rfl Try.isAgg3) ?_
       replace hm := bnd hm
       obtain ⟨⟨x84, x85⟩, hx86, hm⟩ := hm
       refine g_cn ⟨w0, M, _, _, φ⟩ (fun _ h => h) Try.call59 rfl rfl (c_raft_state_voted p0 Ap0_0 cp0_0 hcp0_0 (fun W h => fp0_0 W h) Ap0_1 cp0_1 hcp0_1 (fun W h => fp0_1 W h) Ap0_2 cp0_2 hcp0_2 (fun W hS => fp0_2 W hS.now) Ap0_3 cp0_3 hcp0_3 (fun W h => fp0_3 W h) p1.fFrom _ hx86) (fun ⟨A87, c88, A90, c91, A93, c94, A96, c97, A99, c100, ps102⟩ ⟨hc88, hc91, hc94, hc97, hc100⟩ => ?_)
       refine g_sta _ (fun W h => (ok_frontR (t := 2004) (t' := 100984) h rfl)) ?_
       refine g_abs (fun φ104 q104' => ?_)
       have q104 : ∀ W, φ104 W → φ W := fun W h => (q104' W h).1
       have f89 := fun (W : World) (h : φ104 W) => (q104' W h).2.1
       have f92 := fun (W : World) (h : φ104 W) => (q104' W h).2.2.1
       have f95 := fun (W : World) (h : φ104 W) => (q104' W h).2.2.2.1
       have f98 := fun (W : World) (h : φ104 W) => (q104' W h).2.2.2.2.1
       have f103 := fun (W : World) (h : φ104 W) => (q104' W h).2.2.2.2.2
       refine g_v rfl (r_extract rfl rfl) <| g_v rfl (r_extract rfl rfl) <| g_storeL (tag := 100060) rfl rfl rfl rfl Try.sizeOf84 rfl rfl <| g_v rfl r_assign <| g_nil <| d_then <| c_ret <| d_ret_block <| d_ret_then ?_
       replace hm := Option.some.inj hm
       subst hm
       refine d_sta _ (fun W h => ok_frontR (t := 100984) (t' := 2004) h rfl) ?_
       refine d_retC (A87, c88, A90, c91, A93, c94, A96, c97, A99, c100, ps102) Try.results38 ?_ ⟨hc88, hc91, hc94, hc97, ⟨hc100.1, hc100.2⟩⟩ (fun W h => ((((h.dropR (t := 100880) rfl).dropH (t := 100060) rfl).dropH (t := 100040) rfl).dropH (t := 100030) rfl).phi (fun W hφ => ⟨(q104 _ hφ), (fun W h => f89 W h) W hφ, (fun W h => f92 W h) W hφ, (fun W h => f95 W h) W hφ, (fun W h => f98 W h) W hφ, (fun W h => (f103 W h)) W hφ⟩)) (.inr rfl)
       refine res_agg (tag := 100060) rfl rfl Try.isAgg84 Try.sizeOf84 <| res_tmp <| res_nil ?_
       exact rfl
  ·
   replace hm := ite_f hm (of_decide_eq_false h52)
   refine c_seq <| c_region <| g_v rfl (r_eql rfl rfl) <| g_v rfl r_assign <| g_nil <| d_then ?_
   refine c_cond rfl (fun h106 => ?_) (fun h106 => ?_)
   ·
    replace hm := ite_t hm (of_decide_eq_true h106)
    refine c_seq <| c_seq <| c_region <| g_v rfl r_move <| g_v rfl r_move ?_
    refine g_if rfl rfl rfl rfl rfl (fun h107 => ?_) (fun h107 => ?_)
    ·
     replace hm := ite_f hm (of_decide_eq_false h107)
     refine g_v rfl (r_field (n := 0) Try.underlying84 rfl Try.sizeOf43 rfl rfl) <| g_do rfl rfl rfl rfl rfl h107 <| g_v rfl (r_field (n := 1) Try.underlying43 rfl Try.sizeOf3 rfl rfl) <| g_do rfl rfl rfl rfl rfl h107 <| g_v rfl (r_load (tag := 100030) rfl rfl rfl Try.isAgg3) <| g_do rfl rfl rfl rfl rfl h107 <| g_v rfl (r_neq rfl rfl) <| g_v rfl (r_pick0 rfl h107) <| g_nil <| d_then ?_
     refine c_flat [(3, .pointer (some ⟨g1, 0, none⟩)), (4, .pointer (some ⟨g2, 0, none⟩)), (6, .pointer (some ⟨g3, 0, none⟩)), (109, .bool (decide (p0.fRaft.fRole ≠ 2)))] ⟨rfl, rfl, rfl, rfl, trivial⟩ (fun u => ?_)
     refine c_cond rfl (fun h108 => ?_) (fun h108 => ?_)
     ·
      replace hm := ite_t hm (of_decide_eq_true h108)
      refine c_seq <| c_region <| g_v rfl (r_loadA (tag := 100030) rfl rfl Try.isAgg84 Try.sizeOf84 rfl rfl) <| g_storeL (tag := 100060) rfl rfl rfl rfl Try.sizeOf84 rfl rfl <| g_v rfl r_assign <| g_nil <| d_then <| c_ret <| d_ret_then <| d_ret_block ?_
      refine d_ret_then ?_
      replace hm := Option.some.inj hm
      subst hm
      refine d_sta _ (fun W h => nilR h 15 25 11) <| d_sta _ (fun W h => ok_frontR (t := 15) (t' := 2004) h rfl) ?_
      refine d_retC (Ap0_0, cp0_0, Ap0_1, cp0_1, Ap0_2, cp0_2, Ap0_3, cp0_3, none, 0, ([] : List GNoteP)) Try.results38 ?_ ⟨hcp0_0, hcp0_1, hcp0_2, hcp0_3, ⟨DOk.nil, (Nat.le_refl 0)⟩⟩ (fun W h => (((h.dropH (t := 100060) rfl).dropH (t := 100040) rfl).dropH (t := 100030) rfl).phi (fun W hφ => ⟨hφ, (fun W h => fp0_0 W h) W hφ, (fun W h => fp0_1 W h) W hφ, (fun W h => fp0_2 W h) W hφ, (fun W h => fp0_3 W h) W hφ, (fun W h => DOwn.nil) W hφ⟩)) (.inr rfl)
      refine res_agg (tag := 100060) rfl rfl Try.isAgg84 Try.sizeOf84 <| res_tmp <| res_nil ?_
      exact rfl
     ·
      replace hm := ite_f hm (of_decide_eq_false h108)
      refine c_skip <| d_then <| c_seq <| c_region <| g_v rfl (r_loadA (tag := 100030) rfl rfl Try.isAgg84 Try.sizeOf84 rfl rfl) <| g_v rfl (r_loadA (tag := 100040) rfl rfl Try.isAgg25 Try.sizeOf25 rfl rfl) ?_
      replace hm := bnd hm
      obtain ⟨⟨x109, x110⟩, hx111, hm⟩ := hm
      refine g_cn ⟨w0, M, _, _, φ⟩ (fun _ h => h) Try.call60 rfl rfl (c_raft_state_answered p0 Ap0_0 cp0_0 hcp0_0 (fun W h => fp0_0 W h) Ap0_1 cp0_1 hcp0_1 (fun W h => fp0_1 W h) Ap0_2 cp0_2 hcp0_2 (fun W h => fp0_2 W h) Ap0_3 cp0_3 hcp0_3 (fun W h => fp0_3 W h) p1 Ap1_0 cp1_0 hcp1_0 (fun W h => fp1_0 W h) Ap1_1 cp1_1 hcp1_1 (fun W h => fp1_1 W h) _ hx111) (fun ⟨A112, c113, A115, c116, A118, c119, A121, c122, A124, c125, ps127⟩ ⟨hc113, hc116, hc119, hc122, hc125⟩ => ?_)
      refine g_sta _ (fun W h => (ok_frontR (t := 2004) (t' := 101134) h rfl)) ?_
      refine g_abs (fun φ129 q129' => ?_)
      have q129 : ∀ W, φ129 W → φ W := fun W h => (q129' W h).1
      have f114 := fun (W : World) (h : φ129 W) => (q129' W h).2.1
      have f117 := fun (W : World) (h : φ129 W) => (q129' W h).2.2.1
      have f120 := fun (W : World) (h : φ129 W) => (q129' W h).2.2.2.1
      have f123 := fun (W : World) (h : φ129 W) => (q129' W h).2.2.2.2.1
      have f128 := fun (W : World) (h : φ129 W) => (q129' W h).2.2.2.2.2
      refine g_v rfl (r_extract rfl rfl) <| g_v rfl (r_extract rfl rfl) <| g_storeL (tag := 100060) rfl rfl rfl rfl Try.sizeOf84 rfl rfl <| g_v rfl r_assign <| g_nil <| d_then <| c_ret <| d_ret_block <| d_ret_then ?_
      replace hm := Option.some.inj hm
      subst hm
      refine d_sta _ (fun W h => ok_frontR (t := 101134) (t' := 2004) h rfl) ?_
      refine d_retC (A112, c113, A115, c116, A118, c119, A121, c122, A124, c125, ps127) Try.results38 ?_ ⟨hc113, hc116, hc119, hc122, ⟨hc125.1, hc125.2⟩⟩ (fun W h => (((h.dropH (t := 100060) rfl).dropH (t := 100040) rfl).dropH (t := 100030) rfl).phi (fun W hφ => ⟨(q129 _ hφ), (fun W h => f114 W h) W hφ, (fun W h => f117 W h) W hφ, (fun W h => f120 W h) W hφ, (fun W h => f123 W h) W hφ, (fun W h => (f128 W h)) W hφ⟩)) (.inr rfl)
      refine res_agg (tag := 100060) rfl rfl Try.isAgg84 Try.sizeOf84 <| res_tmp <| res_nil ?_
      exact rfl
    ·
     replace hm := ite_t hm (of_decide_eq_true h107)
     refine g_no rfl rfl rfl rfl rfl h107 <| g_no rfl rfl rfl rfl rfl h107 <| g_no rfl rfl rfl rfl rfl h107 <| g_v rfl (r_pick1 rfl h107) <| g_nil <| d_then ?_
     refine c_flat [(3, .pointer (some ⟨g1, 0, none⟩)), (4, .pointer (some ⟨g2, 0, none⟩)), (6, .pointer (some ⟨g3, 0, none⟩)), (109, .bool true)] ⟨rfl, rfl, rfl, rfl, trivial⟩ (fun u => ?_)
     refine c_cond1 rfl rfl <| c_seq <| c_region <| g_v rfl (r_loadA (tag := 100030) rfl rfl Try.isAgg84 Try.sizeOf84 rfl rfl) <| g_storeL (tag := 100060) rfl rfl rfl rfl Try.sizeOf84 rfl rfl <| g_v rfl r_assign <| g_nil <| d_then <| c_ret <| d_ret_then ?_
     refine d_ret_block <| d_ret_then ?_
     replace hm := Option.some.inj hm
     subst hm
     refine d_sta _ (fun W h => nilR h 16 25 11) <| d_sta _ (fun W h => ok_frontR (t := 16) (t' := 2004) h rfl) ?_
     refine d_retC (Ap0_0, cp0_0, Ap0_1, cp0_1, Ap0_2, cp0_2, Ap0_3, cp0_3, none, 0, ([] : List GNoteP)) Try.results38 ?_ ⟨hcp0_0, hcp0_1, hcp0_2, hcp0_3, ⟨DOk.nil, (Nat.le_refl 0)⟩⟩ (fun W h => (((h.dropH (t := 100060) rfl).dropH (t := 100040) rfl).dropH (t := 100030) rfl).phi (fun W hφ => ⟨hφ, (fun W h => fp0_0 W h) W hφ, (fun W h => fp0_1 W h) W hφ, (fun W h => fp0_2 W h) W hφ, (fun W h => fp0_3 W h) W hφ, (fun W h => DOwn.nil) W hφ⟩)) (.inr rfl)
     refine res_agg (tag := 100060) rfl rfl Try.isAgg84 Try.sizeOf84 <| res_tmp <| res_nil ?_
     exact rfl
   ·
    replace hm := ite_f hm (of_decide_eq_false h106)
    refine c_skip <| d_normal_block <| d_then <| c_seq <| c_block <| c_seq <| c_region <| g_v rfl r_move <| g_v rfl r_assign <| g_nil ?_
    refine d_then ?_
    refine c_flat [(2, .int .i64 p2), (3, .pointer (some ⟨g1, 0, none⟩)), (4, .pointer (some ⟨g2, 0, none⟩)), (6, .pointer (some ⟨g3, 0, none⟩)), (116, .bool (decide (p1.fTerm < p0.fRaft.fHard.fTerm)))] ⟨rfl, rfl, rfl, rfl, rfl, trivial⟩ (fun u => ?_)
    refine c_cond rfl (fun h131 => ?_) (fun h131 => ?_)
    ·
     replace hm := ite_t hm (of_decide_eq_true h131)
     refine c_seq <| ga_start (n := 6) ⟨w0, M, (100060, g3, .cells #[.int .i64 0, .int .i64 0, .int .i64 0, .int .i64 0, .int .i64 0, .int .i64 0, .int .i64 0, .slice none 0 0, .string (⟨#[]⟩ : ByteArray), .int .i64 0, .int .i64 0, .slice none 0 0, .slice none 0 0, .slice none 0 0] 84 (0, 0)) :: (100040, g2, .cells #[.int .i64 p1.fKind, .int .i64 p1.fFrom, .int .i64 p1.fTo, .int .i64 p1.fTerm, .int .i64 p1.fIndex, .int .i64 p1.fLogTerm, .int .i64 p1.fCommit, .bool p1.fGood, .slice Ap1_0 p1.fEntries.length cp1_0, .slice Ap1_1 p1.fVoters.length cp1_1, .string p1.fSnap] 25 (0, 0)) :: (100030, g1, .cells #[.int .i64 p0.fRaft.fMe, .int .i64 p0.fRaft.fRole, .int .i64 p0.fRaft.fLeader, .int .i64 p0.fRaft.fCommit, .int .i64 p0.fRaft.fLeft, .int .i64 p0.fRaft.fHard.fTerm, .int .i64 p0.fRaft.fHard.fVote, .slice Ap0_0 p0.fRaft.fHard.fVoters.length cp0_0, .string p0.fRaft.fHard.fSnap, .int .i64 p0.fRaft.fHard.fLog.fBase, .int .i64 p0.fRaft.fHard.fLog.fBaseTerm, .slice Ap0_1 p0.fRaft.fHard.fLog.fEntries.length cp0_1, .slice Ap0_2 p0.fRaft.fVotes.length cp0_2, .slice Ap0_3 p0.fRaft.fMarks.length cp0_3] 84 (0, 0)) :: H, R, φ⟩ [4] #[false, false, false, false, false, false] (fun W h => h.phi (fun W hφ => hφ)) mixed rfl rfl <| ga_v (i := 0) (bz 6 1) rfl (by kernel_rfl) (fun _ _ _ _ h => h) rfl (r_loadA (tag := 100030) rfl rfl Try.isAgg84 Try.sizeOf84 rfl rfl) <| ga_v (i := 1) (bz 6 3) rfl (by kernel_rfl) (fun _ _ _ _ h => h) rfl (r_loadA (tag := 100030) rfl rfl Try.isAgg84 Try.sizeOf84 rfl rfl) <| ga_r (i := 2) (bz 6 7) rfl (by kernel_rfl) (by decide) rfl (r_loadA (tag := 100040) rfl rfl Try.isAgg25 Try.sizeOf25 rfl rfl) ?_
     replace hm := bnd hm
     obtain ⟨x148, hx149, hm⟩ := hm
     refine ga_cn (first := #[]) (i := 3) (bz 6 15) rfl (by kernel_rfl) (by decide)  ⟨w0, M, _, _, φ⟩ (fun _ h => h) Try.call58 rfl rfl rfl (c_raft_state_answers p0 Ap0_0 cp0_0 hcp0_0 (fun W hS => fp0_0 W hS.now) Ap0_1 cp0_1 hcp0_1 (fun W hS => fp0_1 W hS.now) Ap0_2 cp0_2 hcp0_2 (fun W hS => fp0_2 W hS.now) Ap0_3 cp0_3 hcp0_3 (fun W hS => fp0_3 W hS.now) p1 Ap1_0 cp1_0 hcp1_0 (fun W hS => fp1_0 W hS.now) Ap1_1 cp1_1 hcp1_1 (fun W hS => fp1_1 W hS.now) 5 0 false _ hx149) (fun ⟨A150, c151, ps153⟩ W hc151 h => (((ok_frontR (t := 2000) (t' := 101210) h rfl).phi (fun _ hh => hh.1)).dropR (t := 101210) rfl).phi (fun W hφ => hφ)) (fun ⟨A150, c151, ps153⟩ hc151 => ?_)
     refine ga_sta _ (fun W h => (ok_frontR (t := 2000) (t' := 101210) h rfl)) ?_
     refine ga_abs (fun φ155 q155' => ?_)
     have q155 : ∀ W, φ155 W → φ W := fun W h => (q155' W h).1
     have f154 := fun (W : World) (h : φ155 W) => (q155' W h).2
     refine ga_lastL (i := 4) (tag := 100060) (bz 6 31) rfl (by kernel_rfl) (by decide) rfl rfl rfl rfl Try.sizeOf84 rfl rfl <| gz_p (i := 5) (bz 6 63) rfl (.inr rfl) (by kernel_rfl) (fun _ _ _ _ h => h) rfl <| gz_done (by kernel_rfl) <| d_then <| c_ret <| d_ret_block <| d_ret_then ?_
     replace hm := Option.some.inj hm
     subst hm
     refine d_sta _ (fun W h => ok_frontR (t := 101210) (t' := 2004) h rfl) ?_
     refine d_retC (Ap0_0, cp0_0, Ap0_1, cp0_1, Ap0_2, cp0_2, Ap0_3, cp0_3, A150, c151, ps153) Try.results38 ?_ ⟨hcp0_0, hcp0_1, hcp0_2, hcp0_3, ⟨hc151.1, hc151.2⟩⟩ (fun W h => (((h.dropH (t := 100060) rfl).dropH (t := 100040) rfl).dropH (t := 100030) rfl).phi (fun W hφ => ⟨(q155 _ hφ), (fun W h => fp0_0 W (q155 _ h)) W hφ, (fun W h => fp0_1 W (q155 _ h)) W hφ, (fun W h => fp0_2 W (q155 _ h)) W hφ, (fun W h => fp0_3 W (q155 _ h)) W hφ, (fun W h => (f154 W h)) W hφ⟩)) (.inr rfl)
     refine res_agg (tag := 100060) rfl rfl Try.isAgg84 Try.sizeOf84 <| res_tmp <| res_nil ?_
     exact rfl
    ·
     replace hm := ite_f hm (of_decide_eq_false h131)
     refine c_seq <| c_region <| g_v rfl (r_field (n := 0) Try.underlying84 rfl Try.sizeOf43 rfl rfl) <| g_v rfl (r_field (n := 1) Try.underlying43 rfl Try.sizeOf3 rfl rfl) <| g_v rfl (r_load (tag := 100030) rfl rfl rfl Try.isAgg3) <| g_v rfl (r_eql rfl rfl) <| g_v rfl r_assign <| g_nil <| d_then ?_
     refine c_cond rfl (fun h156 => ?_) (fun h156 => ?_)
     ·
      replace hm := ite_t hm (of_decide_eq_true h156)
      refine c_seq <| c_region <| g_v rfl (r_loadA (tag := 100030) rfl rfl Try.isAgg84 Try.sizeOf84 rfl rfl) <| g_storeL (tag := 100060) rfl rfl rfl rfl Try.sizeOf84 rfl rfl <| g_v rfl r_assign <| g_nil <| d_then <| c_ret <| d_ret_block <| d_ret_then ?_
      replace hm := Option.some.inj hm
      subst hm
      refine d_sta _ (fun W h => nilR h 17 25 11) <| d_sta _ (fun W h => ok_frontR (t := 17) (t' := 2004) h rfl) ?_
      refine d_retC (Ap0_0, cp0_0, Ap0_1, cp0_1, Ap0_2, cp0_2, Ap0_3, cp0_3, none, 0, ([] : List GNoteP)) Try.results38 ?_ ⟨hcp0_0, hcp0_1, hcp0_2, hcp0_3, ⟨DOk.nil, (Nat.le_refl 0)⟩⟩ (fun W h => (((h.dropH (t := 100060) rfl).dropH (t := 100040) rfl).dropH (t := 100030) rfl).phi (fun W hφ => ⟨hφ, (fun W h => fp0_0 W h) W hφ, (fun W h => fp0_1 W h) W hφ, (fun W h => fp0_2 W h) W hφ, (fun W h => fp0_3 W h) W hφ, (fun W h => DOwn.nil) W hφ⟩)) (.inr rfl)
      refine res_agg (tag := 100060) rfl rfl Try.isAgg84 Try.sizeOf84 <| res_tmp <| res_nil ?_
      exact rfl
     ·
      replace hm := ite_f hm (of_decide_eq_false h156)
      refine c_skip <| d_normal_block <| d_then <| c_seq <| ga_start (n := 16) ⟨w0, M, (100060, g3, .cells #[.int .i64 0, .int .i64 0, .int .i64 0, .int .i64 0, .int .i64 0, .int .i64 0, .int .i64 0, .slice none 0 0, .string (⟨#[]⟩ : ByteArray), .int .i64 0, .int .i64 0, .slice none 0 0, .slice none 0 0, .slice none 0 0] 84 (0, 0)) :: (100040, g2, .cells #[.int .i64 p1.fKind, .int .i64 p1.fFrom, .int .i64 p1.fTo, .int .i64 p1.fTerm, .int .i64 p1.fIndex, .int .i64 p1.fLogTerm, .int .i64 p1.fCommit, .bool p1.fGood, .slice Ap1_0 p1.fEntries.length cp1_0, .slice Ap1_1 p1.fVoters.length cp1_1, .string p1.fSnap] 25 (0, 0)) :: H, R, φ⟩ [] #[false, false, false, false, false, false, false, false, false, false, false, false, false, false, false, false] (fun W h => (h.dropH (t := 100030) rfl).phi (fun W hφ => hφ)) mixed rfl rfl <| ga_v (i := 0) (bz 16 1) rfl (by kernel_rfl) (fun _ _ _ _ h => h) rfl (r_field (n := 1) Try.underlying25 rfl Try.sizeOf3 rfl rfl) <| ga_v (i := 1) (bz 16 3) rfl (by kernel_rfl) (fun _ _ _ _ h => h) rfl (r_load (tag := 100040) rfl rfl rfl Try.isAgg3) <| ga_v (i := 2) (bz 16 7) rfl (by kernel_rfl) (fun _ _ _ _ h => h) rfl (r_add rfl rfl rfl) <| ga_v (i := 3) (bz 16 15) rfl (by kernel_rfl) (fun _ _ _ _ h => h) rfl (r_move) <| ga_r (i := 4) (bz 16 31) rfl (by kernel_rfl) (by decide) rfl (r_field (n := 0) Try.underlying84 rfl Try.sizeOf43 rfl rfl) ?_
      refine ga_r (i := 5) (bz 16 63) rfl (by kernel_rfl) (by decide) rfl (r_field (n := 1) Try.underlying43 rfl Try.sizeOf3 rfl rfl) <| ga_storeN (i := 6) (tag := 100030) (bz 16 127) rfl (by kernel_rfl) (by decide) rfl rfl rfl rfl Try.sizeOf3 rfl rfl (fun W h => (h.dropH (t := 100030) rfl).phi (fun W hφ => hφ)) <| ga_r (i := 7) (bz 16 255) rfl (by kernel_rfl) (by decide) rfl (r_field (n := 0) Try.underlying84 rfl Try.sizeOf43 rfl rfl) <| ga_r (i := 8) (bz 16 511) rfl (by kernel_rfl) (by decide) rfl (r_field (n := 2) Try.underlying43 rfl Try.sizeOf3 rfl rfl) <| ga_storeN (i := 9) (tag := 100030) (bz 16 1023) rfl (by kernel_rfl) (by decide) rfl rfl rfl rfl Try.sizeOf3 rfl rfl (fun W h => (h.dropH (t := 100030) rfl).phi (fun W hφ => hφ)) <| ga_r (i := 10) (bz 16 2047) rfl (by kernel_rfl) (by decide) rfl (r_field (n := 0) Try.underlying84 rfl Try.sizeOf43 rfl rfl) <| ga_r (i := 11) (bz 16 4095) rfl (by kernel_rfl) (by decide) rfl (r_field (n := 12) Try.underlying43 rfl Try.sizeOf23 rfl rfl) <| ga_storeN (i := 12) (tag := 100030) (bz 16 8191) rfl (by kernel_rfl) (by decide) rfl rfl rfl rfl Try.sizeOf23 rfl rfl (fun W h => (h.dropH (t := 100030) rfl).phi (fun W hφ => hφ)) <| ga_r (i := 13) (bz 16 16383) rfl (by kernel_rfl) (by decide) rfl (r_field (n := 0) Try.underlying84 rfl Try.sizeOf43 rfl rfl) <| ga_r (i := 14) (bz 16 32767) rfl (by kernel_rfl) (by decide) rfl (r_field (n := 4) Try.underlying43 rfl Try.sizeOf3 rfl rfl) ?_
      refine ga_storeN (i := 15) (tag := 100030) (bz 16 65535) rfl (by kernel_rfl) (by decide) rfl rfl rfl rfl Try.sizeOf3 rfl rfl (fun W h => (h.dropH (t := 100030) rfl).phi (fun W hφ => hφ)) <| ga_done (by kernel_rfl) <| d_then ?_
      refine c_flat [(3, .pointer (some ⟨g1, 0, none⟩)), (4, .pointer (some ⟨g2, 0, none⟩)), (6, .pointer (some ⟨g3, 0, none⟩))] ⟨rfl, rfl, rfl, trivial⟩ (fun u => ?_)
      refine c_sta ⟨w0, M, (100060, g3, .cells #[.int .i64 0, .int .i64 0, .int .i64 0, .int .i64 0, .int .i64 0, .int .i64 0, .int .i64 0, .slice none 0 0, .string (⟨#[]⟩ : ByteArray), .int .i64 0, .int .i64 0, .slice none 0 0, .slice none 0 0, .slice none 0 0] 84 (0, 0)) :: (100040, g2, .cells #[.int .i64 p1.fKind, .int .i64 p1.fFrom, .int .i64 p1.fTo, .int .i64 p1.fTerm, .int .i64 p1.fIndex, .int .i64 p1.fLogTerm, .int .i64 p1.fCommit, .bool p1.fGood, .slice Ap1_0 p1.fEntries.length cp1_0, .slice Ap1_1 p1.fVoters.length cp1_1, .string p1.fSnap] 25 (0, 0)) :: (100030, g1, .cells #[.int .i64 p0.fRaft.fMe, .int .i64 0, .int .i64 (w64 (p1.fFrom + 1)), .int .i64 p0.fRaft.fCommit, .int .i64 p2, .int .i64 p0.fRaft.fHard.fTerm, .int .i64 p0.fRaft.fHard.fVote, .slice Ap0_0 p0.fRaft.fHard.fVoters.length cp0_0, .string p0.fRaft.fHard.fSnap, .int .i64 p0.fRaft.fHard.fLog.fBase, .int .i64 p0.fRaft.fHard.fLog.fBaseTerm, .slice Ap0_1 p0.fRaft.fHard.fLog.fEntries.length cp0_1, .slice none 0 0, .slice Ap0_3 p0.fRaft.fMarks.length cp0_3] 84 (0, 0)) :: H, R, φ⟩ (fun _ h => h) <| c_seq <| c_seq <| c_region <| g_v rfl (r_field (n := 0) Try.underlying25 rfl Try.sizeOf3 rfl rfl) <| g_v rfl (r_load (tag := 100040) rfl rfl rfl Try.isAgg3) <| g_v rfl (r_eql rfl rfl) <| g_nil <| d_then ?_
      refine c_cond rfl (fun h157 => ?_) (fun h157 => ?_)
      ·
       replace hm := ite_t hm (of_decide_eq_true h157)
       refine c_seq <| c_region <| g_v rfl (r_loadA (tag := 100030) rfl rfl Try.isAgg84 Try.sizeOf84 rfl rfl) <| g_v rfl (r_loadA (tag := 100040) rfl rfl Try.isAgg25 Try.sizeOf25 rfl rfl) ?_
       replace hm := bnd hm
       obtain ⟨⟨x158, x159⟩, hx160, hm⟩ := hm
       refine g_cn ⟨w0, M, _, _, φ⟩ (fun _ h => h) Try.call61 rfl rfl (c_raft_state_installed (⟨(⟨p0.fRaft.fMe, 0, w64 (p1.fFrom + 1), p0.fRaft.fCommit, p2, p0.fRaft.fHard, ([] : List Int), p0.fRaft.fMarks⟩ : GRaft)⟩ : Graft_state) Ap0_0 cp0_0 hcp0_0 (fun W h => fp0_0 W h) Ap0_1 cp0_1 hcp0_1 (fun W h => fp0_1 W h) none 0 (Nat.le_refl 0) (fun W _ => Cl.nil _ _) Ap0_3 cp0_3 hcp0_3 (fun W h => fp0_3 W h) p1 Ap1_0 cp1_0 hcp1_0 (fun W hS => fp1_0 W hS.now) Ap1_1 cp1_1 hcp1_1 (fun W hS => fp1_1 W hS.now) _ hx160) (fun ⟨A161, c162, A164, c165, A167, c168, A170, c171, A173, c174, ps176⟩ ⟨hc162, hc165, hc168, hc171, hc174⟩ => ?_)
       refine g_sta _ (fun W h => (ok_frontR (t := 2004) (t' := 101454) h rfl)) ?_
       refine g_abs (fun φ178 q178' => ?_)
       have q178 : ∀ W, φ178 W → φ W := fun W h => (q178' W h).1
       have f163 := fun (W : World) (h : φ178 W) => (q178' W h).2.1
       have f166 := fun (W : World) (h : φ178 W) => (q178' W h).2.2.1
       have f169 := fun (W : World) (h : φ178 W) => (q178' W h).2.2.2.1
       have f172 := fun (W : World) (h : φ178 W) => (q178' W h).2.2.2.2.1
       have f177 := fun (W : World) (h : φ178 W) => (q178' W h).2.2.2.2.2
       refine g_v rfl (r_extract rfl rfl) <| g_v rfl (r_extract rfl rfl) <| g_storeL (tag := 100060) rfl rfl rfl rfl Try.sizeOf84 rfl rfl <| g_v rfl r_assign <| g_nil <| d_then ?_
       refine c_flat [(6, .pointer (some ⟨g3, 0, none⟩)), (7, .slice A173 x159.length c174)] ⟨rfl, rfl, trivial⟩ (fun u => ?_)
       refine c_sta ⟨w0, M, (100060, g3, .cells #[.int .i64 x158.fRaft.fMe, .int .i64 x158.fRaft.fRole, .int .i64 x158.fRaft.fLeader, .int .i64 x158.fRaft.fCommit, .int .i64 x158.fRaft.fLeft, .int .i64 x158.fRaft.fHard.fTerm, .int .i64 x158.fRaft.fHard.fVote, .slice A161 x158.fRaft.fHard.fVoters.length c162, .string x158.fRaft.fHard.fSnap, .int .i64 x158.fRaft.fHard.fLog.fBase, .int .i64 x158.fRaft.fHard.fLog.fBaseTerm, .slice A164 x158.fRaft.fHard.fLog.fEntries.length c165, .slice A167 x158.fRaft.fVotes.length c168, .slice A170 x158.fRaft.fMarks.length c171] 84 (0, 0)) :: (100040, g2, .cells #[.int .i64 p1.fKind, .int .i64 p1.fFrom, .int .i64 p1.fTo, .int .i64 p1.fTerm, .int .i64 p1.fIndex, .int .i64 p1.fLogTerm, .int .i64 p1.fCommit, .bool p1.fGood, .slice Ap1_0 p1.fEntries.length cp1_0, .slice Ap1_1 p1.fVoters.length cp1_1, .string p1.fSnap] 25 (0, 0)) :: (100030, g1, .cells #[.int .i64 p0.fRaft.fMe, .int .i64 0, .int .i64 (w64 (p1.fFrom + 1)), .int .i64 p0.fRaft.fCommit, .int .i64 p2, .int .i64 p0.fRaft.fHard.fTerm, .int .i64 p0.fRaft.fHard.fVote, .slice Ap0_0 p0.fRaft.fHard.fVoters.length cp0_0, .string p0.fRaft.fHard.fSnap, .int .i64 p0.fRaft.fHard.fLog.fBase, .int .i64 p0.fRaft.fHard.fLog.fBaseTerm, .slice Ap0_1 p0.fRaft.fHard.fLog.fEntries.length cp0_1, .slice none 0 0, .slice Ap0_3 p0.fRaft.fMarks.length cp0_3] 84 (0, 0)) :: H, (101454, ⟨.slice A173 x159.length c174, 25, 11, x159.length, (x159.zip ps176).flatMap GNote.encP⟩) :: R, φ178⟩ (fun _ h => h) <| c_ret <| d_ret_then ?_
       replace hm := Option.some.inj hm
       subst hm
       refine d_sta _ (fun W h => ok_frontR (t := 101454) (t' := 2004) h rfl) ?_
       refine d_retC (A161, c162, A164, c165, A167, c168, A170, c171, A173, c174, ps176) Try.results38 ?_ ⟨hc162, hc165, hc168, hc171, ⟨hc174.1, hc174.2⟩⟩ (fun W h => (((h.dropH (t := 100060) rfl).dropH (t := 100040) rfl).dropH (t := 100030) rfl).phi (fun W hφ => ⟨(q178 _ hφ), (fun W h => f163 W h) W hφ, (fun W h => f166 W h) W hφ, (fun W h => f169 W h) W hφ, (fun W h => f172 W h) W hφ, (fun W h => (f177 W h)) W hφ⟩)) (.inr rfl)
       refine res_agg (tag := 100060) rfl rfl Try.isAgg84 Try.sizeOf84 <| res_tmp <| res_nil ?_
       exact rfl
      ·
       replace hm := ite_f hm (of_decide_eq_false h157)
       refine c_skip <| d_then <| c_seq <| c_region <| g_v rfl (r_loadA (tag := 100030) rfl rfl Try.isAgg84 Try.sizeOf84 rfl rfl) <| g_v rfl (r_loadA (tag := 100040) rfl rfl Try.isAgg25 Try.sizeOf25 rfl rfl) ?_
       replace hm := bnd hm
       obtain ⟨⟨x180, x181⟩, hx182, hm⟩ := hm
       refine g_cn ⟨w0, M, _, _, φ⟩ (fun _ h => h) Try.call62 rfl rfl (c_raft_state_appended (⟨(⟨p0.fRaft.fMe, 0, w64 (p1.fFrom + 1), p0.fRaft.fCommit, p2, p0.fRaft.fHard, ([] : List Int), p0.fRaft.fMarks⟩ : GRaft)⟩ : Graft_state) Ap0_0 cp0_0 hcp0_0 (fun W h => fp0_0 W h) Ap0_1 cp0_1 hcp0_1 (fun W h => fp0_1 W h) none 0 (Nat.le_refl 0) (fun W _ => Cl.nil _ _) Ap0_3 cp0_3 hcp0_3 (fun W h => fp0_3 W h) p1 Ap1_0 cp1_0 hcp1_0 (fun W h => fp1_0 W h) Ap1_1 cp1_1 hcp1_1 (fun W hS => fp1_1 W hS.now) _ hx182) (fun ⟨A183, c184, A186, c187, A189, c190, A192, c193, A195, c196, ps198⟩ ⟨hc184, hc187, hc190, hc193, hc196⟩ => ?_)
       refine g_sta _ (fun W h => (ok_frontR (t := 2004) (t' := 101504) h rfl)) ?_
       refine g_abs (fun φ200 q200' => ?_)
       have q200 : ∀ W, φ200 W → φ W := fun W h => (q200' W h).1
       have f185 := fun (W : World) (h : φ200 W) => (q200' W h).2.1
       have f188 := fun (W : World) (h : φ200 W) => (q200' W h).2.2.1
       have f191 := fun (W : World) (h : φ200 W) => (q200' W h).2.2.2.1
       have f194 := fun (W : World) (h : φ200 W) => (q200' W h).2.2.2.2.1
       have f199 := fun (W : World) (h : φ200 W) => (q200' W h).2.2.2.2.2
       refine g_v rfl (r_extract rfl rfl) <| g_v rfl (r_extract rfl rfl) <| g_storeL (tag := 100060) rfl rfl rfl rfl Try.sizeOf84 rfl rfl <| g_v rfl r_assign <| g_nil <| d_then ?_
       refine c_flat [(6, .pointer (some ⟨g3, 0, none⟩)), (7, .slice A195 x181.length c196)] ⟨rfl, rfl, trivial⟩ (fun u => ?_)
       refine c_sta ⟨w0, M, (100060, g3, .cells #[.int .i64 x180.fRaft.fMe, .int .i64 x180.fRaft.fRole, .int .i64 x180.fRaft.fLeader, .int .i64 x180.fRaft.fCommit, .int .i64 x180.fRaft.fLeft, .int .i64 x180.fRaft.fHard.fTerm, .int .i64 x180.fRaft.fHard.fVote, .slice A183 x180.fRaft.fHard.fVoters.length c184, .string x180.fRaft.fHard.fSnap, .int .i64 x180.fRaft.fHard.fLog.fBase, .int .i64 x180.fRaft.fHard.fLog.fBaseTerm, .slice A186 x180.fRaft.fHard.fLog.fEntries.length c187, .slice A189 x180.fRaft.fVotes.length c190, .slice A192 x180.fRaft.fMarks.length c193] 84 (0, 0)) :: (100040, g2, .cells #[.int .i64 p1.fKind, .int .i64 p1.fFrom, .int .i64 p1.fTo, .int .i64 p1.fTerm, .int .i64 p1.fIndex, .int .i64 p1.fLogTerm, .int .i64 p1.fCommit, .bool p1.fGood, .slice Ap1_0 p1.fEntries.length cp1_0, .slice Ap1_1 p1.fVoters.length cp1_1, .string p1.fSnap] 25 (0, 0)) :: (100030, g1, .cells #[.int .i64 p0.fRaft.fMe, .int .i64 0, .int .i64 (w64 (p1.fFrom + 1)), .int .i64 p0.fRaft.fCommit, .int .i64 p2, .int .i64 p0.fRaft.fHard.fTerm, .int .i64 p0.fRaft.fHard.fVote, .slice Ap0_0 p0.fRaft.fHard.fVoters.length cp0_0, .string p0.fRaft.fHard.fSnap, .int .i64 p0.fRaft.fHard.fLog.fBase, .int .i64 p0.fRaft.fHard.fLog.fBaseTerm, .slice Ap0_1 p0.fRaft.fHard.fLog.fEntries.length cp0_1, .slice none 0 0, .slice Ap0_3 p0.fRaft.fMarks.length cp0_3] 84 (0, 0)) :: H, (101504, ⟨.slice A195 x181.length c196, 25, 11, x181.length, (x181.zip ps198).flatMap GNote.encP⟩) :: R, φ200⟩ (fun _ h => h) <| c_ret ?_
       replace hm := Option.some.inj hm
       subst hm
       refine d_sta _ (fun W h => ok_frontR (t := 101504) (t' := 2004) h rfl) ?_
       refine d_retC (A183, c184, A186, c187, A189, c190, A192, c193, A195, c196, ps198) Try.results38 ?_ ⟨hc184, hc187, hc190, hc193, ⟨hc196.1, hc196.2⟩⟩ (fun W h => (((h.dropH (t := 100060) rfl).dropH (t := 100040) rfl).dropH (t := 100030) rfl).phi (fun W hφ => ⟨(q200 _ hφ), (fun W h => f185 W h) W hφ, (fun W h => f188 W h) W hφ, (fun W h => f191 W h) W hφ, (fun W h => f194 W h) W hφ, (fun W h => (f199 W h)) W hφ⟩)) (.inr rfl)
       refine res_agg (tag := 100060) rfl rfl Try.isAgg84 Try.sizeOf84 <| res_tmp <| res_nil ?_
       exact rfl
noncomputable def m_raft_Receive_j1 (p1 : GNote) (p2 : Int) (i25 : Int) (i26 : Int) (i27 : Int) (i28 : Int) (i29 : Int) (i30 : Int) (i31 : Int) (l32 : List Int) (s36 : ByteArray) (i37 : Int) (i38 : Int) (l39 : List GEntry) (l43 : List Int) (l47 : List GMark) : Option (GRaft × (List GNote)) :=
  (m_raft_state_receive (⟨(⟨i25, i26, i27, i28, i29, (⟨i30, i31, l32, s36, (⟨i37, i38, l39⟩ : GLog)⟩ : GHard), l43, l47⟩ : GRaft)⟩ : Graft_state) p1 (max p2 1)).bind fun (z73 : Graft_state × (List GNote)) =>
  some (z73.1.fRaft, z73.2)
noncomputable def m_raft_Receive (p0 : GRaft) (p1 : GNote) (p2 : Int) : Option (GRaft × (List GNote)) :=
  (m_raft_Check p1).bind fun x4 =>
  if x4 ≠ 0 then
    some (p0, ([] : List GNote))
  else
    if p1.fTo ≠ p0.fMe then
      some (p0, ([] : List GNote))
    else
      if p0.fHard.fTerm < p1.fTerm then
        (m_raft_state_down (⟨p0⟩ : Graft_state) p1.fTerm).bind fun x76 =>
        m_raft_Receive_j1 p1 p2 x76.fRaft.fMe x76.fRaft.fRole x76.fRaft.fLeader x76.fRaft.fCommit x76.fRaft.fLeft x76.fRaft.fHard.fTerm x76.fRaft.fHard.fVote x76.fRaft.fHard.fVoters x76.fRaft.fHard.fSnap x76.fRaft.fHard.fLog.fBase x76.fRaft.fHard.fLog.fBaseTerm x76.fRaft.fHard.fLog.fEntries x76.fRaft.fVotes x76.fRaft.fMarks
      else
        m_raft_Receive_j1 p1 p2 p0.fMe p0.fRole p0.fLeader p0.fCommit p0.fLeft p0.fHard.fTerm p0.fHard.fVote p0.fHard.fVoters p0.fHard.fSnap p0.fHard.fLog.fBase p0.fHard.fLog.fBaseTerm p0.fHard.fLog.fEntries p0.fVotes p0.fMarks
theorem c_raft_Receive {w0 : World} {M : Nat → Prop} {H : List (Nat × Nat × Obj)} {R : List (Nat × Row)} {φ : World → Prop} (p0 : GRaft) (Ap0_0 : Option Addr) (cp0_0 : Nat) (hcp0_0 : p0.fHard.fVoters.length ≤ cp0_0) (fp0_0 : ∀ W, φ W → Cl W Ap0_0 (p0.fHard.fVoters.flatMap (fun x : Int => [Value.int .i64 x]))) (Ap0_1 : Option Addr) (cp0_1 : Nat) (hcp0_1 : p0.fHard.fLog.fEntries.length ≤ cp0_1) (fp0_1 : ∀ W, φ W → Cl W Ap0_1 (p0.fHard.fLog.fEntries.flatMap GEntry.enc)) (Ap0_2 : Option Addr) (cp0_2 : Nat) (hcp0_2 : p0.fVotes.length ≤ cp0_2) (fp0_2 : ∀ W, φ W → Cl W Ap0_2 (p0.fVotes.flatMap (fun x : Int => [Value.int .i64 x]))) (Ap0_3 : Option Addr) (cp0_3 : Nat) (hcp0_3 : p0.fMarks.length ≤ cp0_3) (fp0_3 : ∀ W, φ W → Cl W Ap0_3 (p0.fMarks.flatMap GMark.enc)) (p1 : GNote) (Ap1_0 : Option Addr) (cp1_0 : Nat) (hcp1_0 : p1.fEntries.length ≤ cp1_0) (fp1_0 : ∀ W, φ W → Cl W Ap1_0 (p1.fEntries.flatMap GEntry.enc)) (Ap1_1 : Option Addr) (cp1_1 : Nat) (hcp1_1 : p1.fVoters.length ≤ cp1_1) (fp1_1 : ∀ W, φ W → Cl W Ap1_1 (p1.fVoters.flatMap (fun x : Int => [Value.int .i64 x]))) (p2 : Int) (r : GRaft × (List GNote)) (hm : m_raft_Receive p0 p1 p2 = some r) :
    Cn Try.prog 17 #[.agg #[.int .i64 p0.fMe, .int .i64 p0.fRole, .int .i64 p0.fLeader, .int .i64 p0.fCommit, .int .i64 p0.fLeft, .int .i64 p0.fHard.fTerm, .int .i64 p0.fHard.fVote, .slice Ap0_0 p0.fHard.fVoters.length cp0_0, .string p0.fHard.fSnap, .int .i64 p0.fHard.fLog.fBase, .int .i64 p0.fHard.fLog.fBaseTerm, .slice Ap0_1 p0.fHard.fLog.fEntries.length cp0_1, .slice Ap0_2 p0.fVotes.length cp0_2, .slice Ap0_3 p0.fMarks.length cp0_3], .agg #[.int .i64 p1.fKind, .int .i64 p1.fFrom, .int .i64 p1.fTo, .int .i64 p1.fTerm, .int .i64 p1.fIndex, .int .i64 p1.fLogTerm, .int .i64 p1.fCommit, .bool p1.fGood, .slice Ap1_0 p1.fEntries.length cp1_0, .slice Ap1_1 p1.fVoters.length cp1_1, .string p1.fSnap], .int .i64 p2] ⟨w0, M, H, R, φ⟩ (fun x : Option Addr × Nat × Option Addr × Nat × Option Addr × Nat × Option Addr × Nat × Option Addr × Nat × List GNoteP => .tuple #[.agg #[.int .i64 r.1.fMe, .int .i64 r.1.fRole, .int .i64 r.1.fLeader, .int .i64 r.1.fCommit, .int .i64 r.1.fLeft, .int .i64 r.1.fHard.fTerm, .int .i64 r.1.fHard.fVote, .slice x.1 r.1.fHard.fVoters.length x.2.1, .string r.1.fHard.fSnap, .int .i64 r.1.fHard.fLog.fBase, .int .i64 r.1.fHard.fLog.fBaseTerm, .slice x.2.2.1 r.1.fHard.fLog.fEntries.length x.2.2.2.1, .slice x.2.2.2.2.1 r.1.fVotes.length x.2.2.2.2.2.1, .slice x.2.2.2.2.2.2.1 r.1.fMarks.length x.2.2.2.2.2.2.2.1], .slice x.2.2.2.2.2.2.2.2.1 r.2.length x.2.2.2.2.2.2.2.2.2.1]) (fun x => r.1.fHard.fVoters.length ≤ x.2.1 ∧ r.1.fHard.fLog.fEntries.length ≤ x.2.2.2.1 ∧ r.1.fVotes.length ≤ x.2.2.2.2.2.1 ∧ r.1.fMarks.length ≤ x.2.2.2.2.2.2.2.1 ∧ (DOk GNote.capP r.2 x.2.2.2.2.2.2.2.2.2.2 ∧ r.2.length ≤ x.2.2.2.2.2.2.2.2.2.1)) (fun x => ⟨w0, M, H, (2004, ⟨.slice x.2.2.2.2.2.2.2.2.1 r.2.length x.2.2.2.2.2.2.2.2.2.1, 25, 11, r.2.length, (r.2.zip x.2.2.2.2.2.2.2.2.2.2).flatMap GNote.encP⟩) :: R, fun W => φ W ∧ Cl W x.1 (r.1.fHard.fVoters.flatMap (fun x : Int => [Value.int .i64 x])) ∧ Cl W x.2.2.1 (r.1.fHard.fLog.fEntries.flatMap GEntry.enc) ∧ Cl W x.2.2.2.2.1 (r.1.fVotes.flatMap (fun x : Int => [Value.int .i64 x])) ∧ Cl W x.2.2.2.2.2.2.1 (r.1.fMarks.flatMap GMark.enc) ∧ DOwn GNote.ownP r.2 x.2.2.2.2.2.2.2.2.2.2 W⟩) := by
 unfold m_raft_Receive at hm
 refine cn_intro (fn := Try.f17) (N := 46) Try.func17 rfl Try.ntmps17 rfl <| c_seq <| c_region ?_
 refine g_e rfl (e_box 100030 rfl) (fun g1 _ => ?_)
 refine g_e rfl (e_box 100040 rfl) (fun g2 _ => ?_)
 refine g_e rfl (e_alloc 100060 Try.zeroValue43) (fun g3 _ => ?_)
 refine g_v rfl r_assign <| g_nil <| d_then <| c_seq <| c_seq <| c_region <| g_v rfl (r_loadA (tag := 100040) rfl rfl Try.isAgg25 Try.sizeOf25 rfl rfl) ?_
 replace hm := bnd hm
 obtain ⟨x4, hx5, hm⟩ := hm
 refine g_cn ⟨w0, M, _, _, φ⟩ (fun _ h => h) Try.call11 rfl rfl (c_raft_Check p1 Ap1_0 cp1_0 hcp1_0 (fun W hS => fp1_0 W hS.now) Ap1_1 cp1_1 hcp1_1 (fun W hS => fp1_1 W hS.now) _ hx5) (fun _ _ => ?_)
 refine g_v rfl (r_neq rfl rfl) <| g_v rfl r_move ?_
 refine g_if rfl rfl rfl rfl rfl (fun h6 => ?_) (fun h6 => ?_)
 ·
  replace hm := ite_f hm (of_decide_eq_false h6)
  refine g_v rfl (r_field (n := 2) Try.underlying25 rfl Try.sizeOf3 rfl rfl) <| g_do rfl rfl rfl rfl rfl h6 <| g_v rfl (r_load (tag := 100040) rfl rfl rfl Try.isAgg3) <| g_do rfl rfl rfl rfl rfl h6 <| g_v rfl (r_field (n := 0) Try.underlying43 rfl Try.sizeOf3 rfl rfl) <| g_do rfl rfl rfl rfl rfl h6 <| g_v rfl (r_load (tag := 100030) rfl rfl rfl Try.isAgg3) <| g_do rfl rfl rfl rfl rfl h6 <| g_v rfl (r_neq rfl rfl) <| g_v rfl (r_pick0 rfl h6) ?_
  refine g_nil <| d_then ?_
  refine c_flat [(2, .int .i64 p2), (3, .pointer (some ⟨g1, 0, none⟩)), (4, .pointer (some ⟨g2, 0, none⟩)), (6, .pointer (some ⟨g3, 0, none⟩)), (20, .bool (decide (p1.fTo ≠ p0.fMe)))] ⟨rfl, rfl, rfl, rfl, rfl, trivial⟩ (fun u => ?_)
  refine c_sta ⟨w0, M, (100060, g3, .cells #[.int .i64 0, .int .i64 0, .int .i64 0, .int .i64 0, .int .i64 0, .int .i64 0, .int .i64 0, .slice none 0 0, .string (⟨#[]⟩ : ByteArray), .int .i64 0, .int .i64 0, .slice none 0 0, .slice none 0 0, .slice none 0 0] 43 (0, 0)) :: (100040, g2, .cells #[.int .i64 p1.fKind, .int .i64 p1.fFrom, .int .i64 p1.fTo, .int .i64 p1.fTerm, .int .i64 p1.fIndex, .int .i64 p1.fLogTerm, .int .i64 p1.fCommit, .bool p1.fGood, .slice Ap1_0 p1.fEntries.length cp1_0, .slice Ap1_1 p1.fVoters.length cp1_1, .string p1.fSnap] 25 (0, 0)) :: (100030, g1, .cells #[.int .i64 p0.fMe, .int .i64 p0.fRole, .int .i64 p0.fLeader, .int .i64 p0.fCommit, .int .i64 p0.fLeft, .int .i64 p0.fHard.fTerm, .int .i64 p0.fHard.fVote, .slice Ap0_0 p0.fHard.fVoters.length cp0_0, .string p0.fHard.fSnap, .int .i64 p0.fHard.fLog.fBase, .int .i64 p0.fHard.fLog.fBaseTerm, .slice Ap0_1 p0.fHard.fLog.fEntries.length cp0_1, .slice Ap0_2 p0.fVotes.length cp0_2, .slice Ap0_3 p0.fMarks.length cp0_3] 43 (0, 0)) :: H, R, φ⟩ (fun _ h => h) ?_
  refine c_cond rfl (fun h7 => ?_) (fun h7 => ?_)
  ·
   replace hm := ite_t hm (of_decide_eq_true h7)
   refine c_seq <| c_region <| g_v rfl (r_loadA (tag := 100030) rfl rfl Try.isAgg43 Try.sizeOf43 rfl rfl) <| g_storeL (tag := 100060) rfl rfl rfl rfl Try.sizeOf43 rfl rfl <| g_v rfl r_assign <| g_nil <| d_then <| c_ret <| d_ret_then ?_
   replace hm := Option.some.inj hm
   subst hm
   refine d_sta _ (fun W h => nilR h 11 25 11) <| d_sta _ (fun W h => ok_frontR (t := 11) (t' := 2004) h rfl) ?_
   refine d_retC (Ap0_0, cp0_0, Ap0_1, cp0_1, Ap0_2, cp0_2, Ap0_3, cp0_3, none, 0, ([] : List GNoteP)) Try.results17 ?_ ⟨hcp0_0, hcp0_1, hcp0_2, hcp0_3, ⟨DOk.nil, (Nat.le_refl 0)⟩⟩ (fun W h => (((h.dropH (t := 100060) rfl).dropH (t := 100040) rfl).dropH (t := 100030) rfl).phi (fun W hφ => ⟨hφ, (fun W h => fp0_0 W h) W hφ, (fun W h => fp0_1 W h) W hφ, (fun W h => fp0_2 W h) W hφ, (fun W h => fp0_3 W h) W hφ, (fun W h => DOwn.nil) W hφ⟩)) (.inr rfl)
   refine res_agg (tag := 100060) rfl rfl Try.isAgg43 Try.sizeOf43 <| res_tmp <| res_nil ?_
   exact rfl
  ·
   replace hm := ite_f hm (of_decide_eq_false h7)
   refine c_skip <| d_then <| c_seq <| c_region <| g_v rfl (r_loadA (tag := 100030) rfl rfl Try.isAgg43 Try.sizeOf43 rfl rfl) <| g_v rfl (r_build _ rfl (bld84_3 _ _ _ _ _ _ _ _ _ _ _ _ _ _ _ _ _ _ _ _ _ _)) ?_
   refine g_e rfl (e_alloc 100080 Try.zeroValue84) (fun g8 _ => ?_)
   refine g_storeL (tag := 100080) rfl rfl rfl rfl Try.sizeOf84 rfl rfl <| g_nil <| d_then <| c_seq ?_
   refine c_cut (ι := Int × Int × Int × Int × Int × Int × Int × (List Int) × ByteArray × Int × Int × (List GEntry) × (List Int) × (List GMark) × Option Addr × Nat × Option Addr × Nat × Option Addr × Nat × Option Addr × Nat) [2, 4, 6, 8] (fun ⟨i25, i26, i27, i28, i29, i30, i31, l32, s36, i37, i38, l39, l43, l47, A33, c34, A40, c41, A44, c45, A48, c49⟩ => []) (fun ⟨i25, i26, i27, i28, i29, i30, i31, l32, s36, i37, i38, l39, l43, l47, A33, c34, A40, c41, A44, c45, A48, c49⟩ => ⟨w0, M, (100080, g8, .cells #[.int .i64 i25, .int .i64 i26, .int .i64 i27, .int .i64 i28, .int .i64 i29, .int .i64 i30, .int .i64 i31, .slice A33 l32.length c34, .string s36, .int .i64 i37, .int .i64 i38, .slice A40 l39.length c41, .slice A44 l43.length c45, .slice A48 l47.length c49] 84 (0, 0)) :: (100060, g3, .cells #[.int .i64 0, .int .i64 0, .int .i64 0, .int .i64 0, .int .i64 0, .int .i64 0, .int .i64 0, .slice none 0 0, .string (⟨#[]⟩ : ByteArray), .int .i64 0, .int .i64 0, .slice none 0 0, .slice none 0 0, .slice none 0 0] 43 (0, 0)) :: (100040, g2, .cells #[.int .i64 p1.fKind, .int .i64 p1.fFrom, .int .i64 p1.fTo, .int .i64 p1.fTerm, .int .i64 p1.fIndex, .int .i64 p1.fLogTerm, .int .i64 p1.fCommit, .bool p1.fGood, .slice Ap1_0 p1.fEntries.length cp1_0, .slice Ap1_1 p1.fVoters.length cp1_1, .string p1.fSnap] 25 (0, 0)) :: H, R, fun W => φ W ∧ Cl W A33 (l32.flatMap (fun x : Int => [Value.int .i64 x])) ∧ Cl W A40 (l39.flatMap GEntry.enc) ∧ Cl W A44 (l43.flatMap (fun x : Int => [Value.int .i64 x])) ∧ Cl W A48 (l47.flatMap GMark.enc)⟩) (fun ⟨i25, i26, i27, i28, i29, i30, i31, l32, s36, i37, i38, l39, l43, l47, A33, c34, A40, c41, A44, c45, A48, c49⟩ => m_raft_Receive_j1 p1 p2 i25 i26 i27 i28 i29 i30 i31 l32 s36 i37 i38 l39 l43 l47 = some r ∧ l32.length ≤ c34 ∧ l39.length ≤ c41 ∧ l43.length ≤ c45 ∧ l47.length ≤ c49) ?_ (fun ⟨i25, i26, i27, i28, i29, i30, i31, l32, s36, i37, i38, l39, l43, l47, A33, c34, A40, c41, A44, c45, A48, c49⟩ u ⟨hm, hc34, hc41, hc45, hc49⟩ => ?_)
   ·
    refine c_seq <| c_region <| g_v rfl (r_field (n := 3) Try.underlying25 rfl Try.sizeOf3 rfl rfl) <| g_v rfl (r_load (tag := 100040) rfl rfl rfl Try.isAgg3) <| g_v rfl (r_field (n := 0) Try.underlying84 rfl Try.sizeOf43 rfl rfl) <| g_v rfl (r_field (n := 5) Try.underlying43 rfl Try.sizeOf40 rfl rfl) <| g_v rfl (r_field (n := 5) Try.underlying40 rfl Try.sizeOf3 rfl rfl) <| g_v rfl (r_load (tag := 100080) rfl rfl rfl Try.isAgg3) <| g_v rfl (r_gtr rfl rfl) <| g_nil ?_
    refine d_then ?_
    refine c_flat [(2, .int .i64 p2), (4, .pointer (some ⟨g2, 0, none⟩)), (6, .pointer (some ⟨g3, 0, none⟩)), (8, .pointer (some ⟨g8, 0, none⟩)), (30, .bool (decide (p0.fHard.fTerm < p1.fTerm)))] ⟨rfl, rfl, rfl, rfl, rfl, trivial⟩ (fun u => ?_)
    refine c_sta ⟨w0, M, (100080, g8, .cells #[.int .i64 p0.fMe, .int .i64 p0.fRole, .int .i64 p0.fLeader, .int .i64 p0.fCommit, .int .i64 p0.fLeft, .int .i64 p0.fHard.fTerm, .int .i64 p0.fHard.fVote, .slice Ap0_0 p0.fHard.fVoters.length cp0_0, .string p0.fHard.fSnap, .int .i64 p0.fHard.fLog.fBase, .int .i64 p0.fHard.fLog.fBaseTerm, .slice Ap0_1 p0.fHard.fLog.fEntries.length cp0_1, .slice Ap0_2 p0.fVotes.length cp0_2, .slice Ap0_3 p0.fMarks.length cp0_3] 84 (0, 0)) :: (100060, g3, .cells #[.int .i64 0, .int .i64 0, .int .i64 0, .int .i64 0, .int .i64 0, .int .i64 0, .int .i64 0, .slice none 0 0, .string (⟨#[]⟩ : ByteArray), .int .i64 0, .int .i64 0, .slice none 0 0, .slice none 0 0, .slice none 0 0] 43 (0, 0)) :: (100040, g2, .cells #[.int .i64 p1.fKind, .int .i64 p1.fFrom, .int .i64 p1.fTo, .int .i64 p1.fTerm, .int .i64 p1.fIndex, .int .i64 p1.fLogTerm, .int .i64 p1.fCommit, .bool p1.fGood, .slice Ap1_0 p1.fEntries.length cp1_0, .slice Ap1_1 p1.fVoters.length cp1_1, .string p1.fSnap] 25 (0, 0)) :: (100030, g1, .cells #[.int .i64 p0.fMe, .int .i64 p0.fRole, .int .i64 p0.fLeader, .int .i64 p0.fCommit, .int .i64 p0.fLeft, .int .i64 p0.fHard.fTerm, .int .i64 p0.fHard.fVote, .slice Ap0_0 p0.fHard.fVoters.length cp0_0, .string p0.fHard.fSnap, .int .i64 p0.fHard.fLog.fBase, .int .i64 p0.fHard.fLog.fBaseTerm, .slice Ap0_1 p0.fHard.fLog.fEntries.length cp0_1, .slice Ap0_2 p0.fVotes.length cp0_2, .slice Ap0_3 p0.fMarks.length cp0_3] 43 (0, 0)) :: H, R, φ⟩ (fun _ h => h) ?_
    refine c_cond rfl (fun h75 => ?_) (fun h75 => ?_)
    ·
     replace hm := ite_t hm (of_decide_eq_true h75)
     refine c_region <| g_v rfl (r_loadA (tag := 100080) rfl rfl Try.isAgg84 Try.sizeOf84 rfl rfl) <| g_v rfl (r_field (n := 3) Try.underlying25 rfl Try.sizeOf3 rfl rfl) <| g_v rfl (r_load (tag := 100040) rfl rfl rfl Try.isAgg3) ?_
     replace hm := bnd hm
     obtain ⟨x76, hx77, hm⟩ := hm
     refine g_cn ⟨w0, M, _, _, φ⟩ (fun _ h => h) Try.call37 rfl rfl (c_raft_state_down (⟨p0⟩ : Graft_state) Ap0_0 cp0_0 hcp0_0 (fun W h => fp0_0 W h) Ap0_1 cp0_1 hcp0_1 (fun W h => fp0_1 W h) Ap0_2 cp0_2 hcp0_2 (fun W hS => fp0_2 W hS.now) Ap0_3 cp0_3 hcp0_3 (fun W hS => fp0_3 W hS.now) p1.fTerm _ hx77) (fun ⟨A78, c79, A81, c82, A84, c85, A87, c88⟩ ⟨hc79, hc82, hc85, hc88⟩ => ?_)
     refine g_abs (fun φ90 q90' => ?_)
     have q90 : ∀ W, φ90 W → φ W := fun W h => (q90' W h).1
     have f80 := fun (W : World) (h : φ90 W) => (q90' W h).2.1
     have f83 := fun (W : World) (h : φ90 W) => (q90' W h).2.2.1
     have f86 := fun (W : World) (h : φ90 W) => (q90' W h).2.2.2.1
     have f89 := fun (W : World) (h : φ90 W) => (q90' W h).2.2.2.2
     refine g_storeL (tag := 100080) rfl rfl rfl rfl Try.sizeOf84 rfl rfl <| g_nil ?_
     exact d_round (x76.fRaft.fMe, x76.fRaft.fRole, x76.fRaft.fLeader, x76.fRaft.fCommit, x76.fRaft.fLeft, x76.fRaft.fHard.fTerm, x76.fRaft.fHard.fVote, x76.fRaft.fHard.fVoters, x76.fRaft.fHard.fSnap, x76.fRaft.fHard.fLog.fBase, x76.fRaft.fHard.fLog.fBaseTerm, x76.fRaft.fHard.fLog.fEntries, x76.fRaft.fVotes, x76.fRaft.fMarks, A78, c79, A81, c82, A84, c85, A87, c88) ⟨hm, hc79, hc82, hc85, hc88⟩ Nat.zero_lt_one ⟨rfl, rfl, rfl, rfl, trivial⟩ (fun W h => (h.dropH (t := 100030) rfl).phi (fun W hφ => ⟨(q90 _ hφ), (fun W h => f80 W h) W hφ, (fun W h => f83 W h) W hφ, (fun W h => f86 W h) W hφ, (fun W h => f89 W h) W hφ⟩))
    ·
     replace hm := ite_f hm (of_decide_eq_false h75)
     refine c_skip ?_
     exact d_round (p0.fMe, p0.fRole, p0.fLeader, p0.fCommit, p0.fLeft, p0.fHard.fTerm, p0.fHard.fVote, p0.fHard.fVoters, p0.fHard.fSnap, p0.fHard.fLog.fBase, p0.fHard.fLog.fBaseTerm, p0.fHard.fLog.fEntries, p0.fVotes, p0.fMarks, Ap0_0, cp0_0, Ap0_1, cp0_1, Ap0_2, cp0_2, Ap0_3, cp0_3) ⟨hm, hcp0_0, hcp0_1, hcp0_2, hcp0_3⟩ Nat.zero_lt_one ⟨rfl, rfl, rfl, rfl, trivial⟩ (fun W h => (h.dropH (t := 100030) rfl).phi (fun W hφ => ⟨hφ, (fun W h => fp0_0 W h) W hφ, (fun W h => fp0_1 W h) W hφ, (fun W h => fp0_2 W h) W hφ, (fun W h => fp0_3 W h) W hφ⟩))
   ·
    unfold m_raft_Receive_j1 at hm
    refine d_abs (fun φ51 q51' => ?_)
    have q51 : ∀ W, φ51 W → φ W := fun W h => (q51' W h).1
    have f35 := fun (W : World) (h : φ51 W) => (q51' W h).2.1
    have f42 := fun (W : World) (h : φ51 W) => (q51' W h).2.2.1
    have f46 := fun (W : World) (h : φ51 W) => (q51' W h).2.2.2.1
    have f50 := fun (W : World) (h : φ51 W) => (q51' W h).2.2.2.2
    refine d_flat [(2, .int .i64 p2), (4, .pointer (some ⟨g2, 0, none⟩)), (6, .pointer (some ⟨g3, 0, none⟩)), (8, .pointer (some ⟨g8, 0, none⟩))] ⟨rfl, rfl, rfl, rfl, trivial⟩ (fun u => ?_)
    refine d_sta ⟨w0, M, (100080, g8, .cells #[.int .i64 i25, .int .i64 i26, .int .i64 i27, .int .i64 i28, .int .i64 i29, .int .i64 i30, .int .i64 i31, .slice A33 l32.length c34, .string s36, .int .i64 i37, .int .i64 i38, .slice A40 l39.length c41, .slice A44 l43.length c45, .slice A48 l47.length c49] 84 (0, 0)) :: (100060, g3, .cells #[.int .i64 0, .int .i64 0, .int .i64 0, .int .i64 0, .int .i64 0, .int .i64 0, .int .i64 0, .slice none 0 0, .string (⟨#[]⟩ : ByteArray), .int .i64 0, .int .i64 0, .slice none 0 0, .slice none 0 0, .slice none 0 0] 43 (0, 0)) :: (100040, g2, .cells #[.int .i64 p1.fKind, .int .i64 p1.fFrom, .int .i64 p1.fTo, .int .i64 p1.fTerm, .int .i64 p1.fIndex, .int .i64 p1.fLogTerm, .int .i64 p1.fCommit, .bool p1.fGood, .slice Ap1_0 p1.fEntries.length cp1_0, .slice Ap1_1 p1.fVoters.length cp1_1, .string p1.fSnap] 25 (0, 0)) :: H, R, φ51⟩ (fun _ h => h) <| d_then <| c_seq <| c_region <| g_v rfl (r_loadA (tag := 100080) rfl rfl Try.isAgg84 Try.sizeOf84 rfl rfl) <| g_v rfl (r_loadA (tag := 100040) rfl rfl Try.isAgg25 Try.sizeOf25 rfl rfl) <| g_v rfl r_move <| g_v rfl (r_max rfl rfl) ?_
    replace hm := bnd hm
    obtain ⟨⟨x52, x53⟩, hx54, hm⟩ := hm
    refine g_cn ⟨w0, M, _, _, φ51⟩ (fun _ h => h) Try.call38 rfl rfl (c_raft_state_receive (⟨(⟨i25, i26, i27, i28, i29, (⟨i30, i31, l32, s36, (⟨i37, i38, l39⟩ : GLog)⟩ : GHard), l43, l47⟩ : GRaft)⟩ : Graft_state) A33 c34 hc34 (fun W h => f35 W h) A40 c41 hc41 (fun W h => f42 W h) A44 c45 hc45 (fun W h => f46 W h) A48 c49 hc49 (fun W h => f50 W h) p1 Ap1_0 cp1_0 hcp1_0 (fun W h => fp1_0 W (q51 _ h)) Ap1_1 cp1_1 hcp1_1 (fun W h => fp1_1 W (q51 _ h)) (max p2 1) _ hx54) (fun ⟨A55, c56, A58, c59, A61, c62, A64, c65, A67, c68, ps70⟩ ⟨hc56, hc59, hc62, hc65, hc68⟩ => ?_)
    refine g_sta _ (fun W h => (ok_frontR (t := 2004) (t' := 100404) h rfl)) ?_
    refine g_abs (fun φ72 q72' => ?_)
    have q72 : ∀ W, φ72 W → φ51 W := fun W h => (q72' W h).1
    have f57 := fun (W : World) (h : φ72 W) => (q72' W h).2.1
    have f60 := fun (W : World) (h : φ72 W) => (q72' W h).2.2.1
    have f63 := fun (W : World) (h : φ72 W) => (q72' W h).2.2.2.1
    have f66 := fun (W : World) (h : φ72 W) => (q72' W h).2.2.2.2.1
    have f71 := fun (W : World) (h : φ72 W) => (q72' W h).2.2.2.2.2
    refine g_v rfl r_move <| g_v rfl (r_extract rfl rfl) <| g_v rfl (r_extract rfl rfl) ?_
    refine g_e rfl (e_alloc 100090 Try.zeroValue84) (fun g74 _ => ?_)
    refine g_storeL (tag := 100090) rfl rfl rfl rfl Try.sizeOf84 rfl rfl <| g_v rfl r_assign <| g_nil <| d_then ?_
    refine c_flat [(6, .pointer (some ⟨g3, 0, none⟩)), (9, .pointer (some ⟨g74, 0, none⟩)), (10, .slice A67 x53.length c68)] ⟨rfl, rfl, rfl, trivial⟩ (fun u => ?_)
    refine c_sta ⟨w0, M, (100090, g74, .cells #[.int .i64 x52.fRaft.fMe, .int .i64 x52.fRaft.fRole, .int .i64 x52.fRaft.fLeader, .int .i64 x52.fRaft.fCommit, .int .i64 x52.fRaft.fLeft, .int .i64 x52.fRaft.fHard.fTerm, .int .i64 x52.fRaft.fHard.fVote, .slice A55 x52.fRaft.fHard.fVoters.length c56, .string x52.fRaft.fHard.fSnap, .int .i64 x52.fRaft.fHard.fLog.fBase, .int .i64 x52.fRaft.fHard.fLog.fBaseTerm, .slice A58 x52.fRaft.fHard.fLog.fEntries.length c59, .slice A61 x52.fRaft.fVotes.length c62, .slice A64 x52.fRaft.fMarks.length c65] 84 (0, 0)) :: (100080, g8, .cells #[.int .i64 i25, .int .i64 i26, .int .i64 i27, .int .i64 i28, .int .i64 i29, .int .i64 i30, .int .i64 i31, .slice A33 l32.length c34, .string s36, .int .i64 i37, .int .i64 i38, .slice A40 l39.length c41, .slice A44 l43.length c45, .slice A48 l47.length c49] 84 (0, 0)) :: (100060, g3, .cells #[.int .i64 0, .int .i64 0, .int .i64 0, .int .i64 0, .int .i64 0, .int .i64 0, .int .i64 0, .slice none 0 0, .string (⟨#[]⟩ : ByteArray), .int .i64 0, .int .i64 0, .slice none 0 0, .slice none 0 0, .slice none 0 0] 43 (0, 0)) :: (100040, g2, .cells #[.int .i64 p1.fKind, .int .i64 p1.fFrom, .int .i64 p1.fTo, .int .i64 p1.fTerm, .int .i64 p1.fIndex, .int .i64 p1.fLogTerm, .int .i64 p1.fCommit, .bool p1.fGood, .slice Ap1_0 p1.fEntries.length cp1_0, .slice Ap1_1 p1.fVoters.length cp1_1, .string p1.fSnap] 25 (0, 0)) :: H, (100404, ⟨.slice A67 x53.length c68, 25, 11, x53.length, (x53.zip ps70).flatMap GNote.encP⟩) :: R, φ72⟩ (fun _ h => h) <| c_seq <| c_region <| g_v rfl (r_field (n := 0) Try.underlying84 rfl Try.sizeOf43 rfl rfl) <| g_v rfl (r_loadA (tag := 100090) rfl rfl Try.isAgg43 Try.sizeOf43 rfl rfl) <| g_v rfl r_move <| g_storeL (tag := 100060) rfl rfl rfl rfl Try.sizeOf43 rfl rfl <| g_v rfl r_assign <| g_nil <| d_then ?_
    refine c_ret ?_
    replace hm := Option.some.inj hm
    subst hm
    refine d_sta _ (fun W h => ok_frontR (t := 100404) (t' := 2004) h rfl) ?_
    refine d_retC (A55, c56, A58, c59, A61, c62, A64, c65, A67, c68, ps70) Try.results17 ?_ ⟨hc56, hc59, hc62, hc65, ⟨hc68.1, hc68.2⟩⟩ (fun W h => ((((h.dropH (t := 100090) rfl).dropH (t := 100080) rfl).dropH (t := 100060) rfl).dropH (t := 100040) rfl).phi (fun W hφ => ⟨(q51 _ (q72 _ hφ)), (fun W h => f57 W h) W hφ, (fun W h => f60 W h) W hφ, (fun W h => f63 W h) W hφ, (fun W h => f66 W h) W hφ, (fun W h => (f71 W h)) W hφ⟩)) (.inr rfl)
    refine res_agg (tag := 100060) rfl rfl Try.isAgg43 Try.sizeOf43 <| res_tmp <| res_nil ?_
    exact rfl
 ·
  replace hm := ite_t hm (of_decide_eq_true h6)
  refine g_no rfl rfl rfl rfl rfl h6 <| g_no rfl rfl rfl rfl rfl h6 <| g_no rfl rfl rfl rfl rfl h6 <| g_no rfl rfl rfl rfl rfl h6 <| g_v rfl (r_pick1 rfl h6) <| g_nil <| d_then ?_
  refine c_flat [(2, .int .i64 p2), (3, .pointer (some ⟨g1, 0, none⟩)), (4, .pointer (some ⟨g2, 0, none⟩)), (6, .pointer (some ⟨g3, 0, none⟩)), (20, .bool true)] ⟨rfl, rfl, rfl, rfl, rfl, trivial⟩ (fun u => ?_)
  refine c_sta ⟨w0, M, (100060, g3, .cells #[.int .i64 0, .int .i64 0, .int .i64 0, .int .i64 0, .int .i64 0, .int .i64 0, .int .i64 0, .slice none 0 0, .string (⟨#[]⟩ : ByteArray), .int .i64 0, .int .i64 0, .slice none 0 0, .slice none 0 0, .slice none 0 0] 43 (0, 0)) :: (100040, g2, .cells #[.int .i64 p1.fKind, .int .i64 p1.fFrom, .int .i64 p1.fTo, .int .i64 p1.fTerm, .int .i64 p1.fIndex, .int .i64 p1.fLogTerm, .int .i64 p1.fCommit, .bool p1.fGood, .slice Ap1_0 p1.fEntries.length cp1_0, .slice Ap1_1 p1.fVoters.length cp1_1, .string p1.fSnap] 25 (0, 0)) :: (100030, g1, .cells #[.int .i64 p0.fMe, .int .i64 p0.fRole, .int .i64 p0.fLeader, .int .i64 p0.fCommit, .int .i64 p0.fLeft, .int .i64 p0.fHard.fTerm, .int .i64 p0.fHard.fVote, .slice Ap0_0 p0.fHard.fVoters.length cp0_0, .string p0.fHard.fSnap, .int .i64 p0.fHard.fLog.fBase, .int .i64 p0.fHard.fLog.fBaseTerm, .slice Ap0_1 p0.fHard.fLog.fEntries.length cp0_1, .slice Ap0_2 p0.fVotes.length cp0_2, .slice Ap0_3 p0.fMarks.length cp0_3] 43 (0, 0)) :: H, R, φ⟩ (fun _ h => h) <| c_cond1 rfl rfl <| c_seq <| c_region <| g_v rfl (r_loadA (tag := 100030) rfl rfl Try.isAgg43 Try.sizeOf43 rfl rfl) <| g_storeL (tag := 100060) rfl rfl rfl rfl Try.sizeOf43 rfl rfl <| g_v rfl r_assign <| g_nil <| d_then <| c_ret ?_
  refine d_ret_then ?_
  replace hm := Option.some.inj hm
  subst hm
  refine d_sta _ (fun W h => nilR h 12 25 11) <| d_sta _ (fun W h => ok_frontR (t := 12) (t' := 2004) h rfl) ?_
  refine d_retC (Ap0_0, cp0_0, Ap0_1, cp0_1, Ap0_2, cp0_2, Ap0_3, cp0_3, none, 0, ([] : List GNoteP)) Try.results17 ?_ ⟨hcp0_0, hcp0_1, hcp0_2, hcp0_3, ⟨DOk.nil, (Nat.le_refl 0)⟩⟩ (fun W h => (((h.dropH (t := 100060) rfl).dropH (t := 100040) rfl).dropH (t := 100030) rfl).phi (fun W hφ => ⟨hφ, (fun W h => fp0_0 W h) W hφ, (fun W h => fp0_1 W h) W hφ, (fun W h => fp0_2 W h) W hφ, (fun W h => fp0_3 W h) W hφ, (fun W h => DOwn.nil) W hφ⟩)) (.inr rfl)
  refine res_agg (tag := 100060) rfl rfl Try.isAgg43 Try.sizeOf43 <| res_tmp <| res_nil ?_
  exact rfl
theorem lit3_23 (z0 : Int) (z1 : Int) : Try.prog.builtSlice 3 2 [(0, .int .i64 z0), (1, .int .i64 z1)] = some #[.int .i64 z0, .int .i64 z1] := by kernel_rfl
noncomputable def m_law12_awake  : Option Bool :=
  (m_raft_New 0 (⟨0, 0, [0], (⟨#[]⟩ : ByteArray), (⟨0, 0, ([] : List GEntry)⟩ : GLog)⟩ : GHard) 0).bind fun x4 =>
  (m_raft_Tick x4 5).bind fun (z40 : GRaft × (List GNote)) =>
  (m_raft_New 0 (⟨0, 0, [0, 1, 2], (⟨#[]⟩ : ByteArray), (⟨0, 0, ([] : List GEntry)⟩ : GLog)⟩ : GHard) 0).bind fun x45 =>
  (m_raft_Tick x45 7).bind fun (z81 : GRaft × (List GNote)) =>
  if (z81.2.length : Int) ≠ 2 then
    some false
  else
    (at_ z81.2 1).bind fun x84 =>
    if x84.fTo ≠ 2 then
      some false
    else
      (at_ z81.2 0).bind fun x96 =>
      if x96.fKind ≠ 1 then
        some false
      else
        (m_raft_Receive z81.1 (⟨2, 1, 0, 1, 0, 0, 0, true, ([] : List GEntry), ([] : List Int), (⟨#[]⟩ : ByteArray)⟩ : GNote) 5).bind fun (z129 : GRaft × (List GNote)) =>
        if z40.1.fRole = 2 then
          if z40.1.fHard.fTerm = 1 then
            if z40.1.fCommit = 1 then
              if z81.1.fLeft = 7 then
                if z81.1.fRole = 1 then
                  if z129.1.fRole = 2 then
                    if (z129.2.length : Int) = 2 then
                      (at_ z129.2 0).bind fun x138 =>
                      if x138.fKind = 3 then
                        (at_ z129.2 0).bind fun x150 =>
                        if (x150.fEntries.length : Int) = 1 then
                          (m_raft_Majority [1, 2, 3] [3, 1]).bind fun x164 =>
                          some x164
                        else
                          some false
                      else
                        some false
                    else
                      some false
                  else
                    some false
                else
                  some false
              else
                some false
            else
              some false
          else
            some false
        else
          some false
theorem c_law12_awake {w0 : World} {M : Nat → Prop} {H : List (Nat × Nat × Obj)} {R : List (Nat × Row)} {φ : World → Prop}  (r : Bool) (hm : m_law12_awake = some r) :
    Cn Try.prog 9 #[] ⟨w0, M, H, R, φ⟩ (fun x : Unit => .bool r) (fun x => True) (fun x => ⟨w0, M, H, R, φ⟩) := by
 unfold m_law12_awake at hm
 refine cn_intro (fn := Try.f9) (N := 98) Try.func9 rfl Try.ntmps9 rfl <| c_seq <| c_region <| g_v rfl r_assign <| g_nil <| d_then <| c_seq <| c_region ?_
 refine g_e rfl (e_lit (tag := 100080) (l := [0]) (enc := (fun x : Int => [Value.int .i64 x])) (sz := 1) rfl Try.underlying23 (lit3_0 _) rfl rfl (fun _ => rfl)) (fun g1 _ => ?_)
 refine g_v rfl (r_build _ rfl (bld40_1 _ _ _)) ?_
 refine g_shut (tag := 100080) rfl (fun φ2 q2' => ?_)
 have q2 : ∀ W, φ2 W → φ W := fun W h => (q2' W h).1
 have f3 := fun (W : World) (h : φ2 W) => (q2' W h).2
 replace hm := bnd hm
 obtain ⟨x4, hx5, hm⟩ := hm
 refine g_cn ⟨w0, M, _, _, φ2⟩ (fun _ h => h) Try.call16 rfl rfl (c_raft_New 0 (⟨0, 0, [0], (⟨#[]⟩ : ByteArray), (⟨0, 0, ([] : List GEntry)⟩ : GLog)⟩ : GHard) (some ⟨g1, 0, none⟩) 1 (Nat.le_refl _) (fun W h => f3 W h) none 0 (Nat.le_refl 0) (fun W _ => Cl.nil _ _) 0 _ hx5) (fun ⟨A6, c7, A9, c10, A12, c13, A15, c16⟩ ⟨hc7, hc10, hc13, hc16⟩ => ?_)
 refine g_abs (fun φ18 q18' => ?_)
 have q18 : ∀ W, φ18 W → φ2 W := fun W h => (q18' W h).1
 have f8 := fun (W : World) (h : φ18 W) => (q18' W h).2.1
 have f11 := fun (W : World) (h : φ18 W) => (q18' W h).2.2.1
 have f14 := fun (W : World) (h : φ18 W) => (q18' W h).2.2.2.1
 have f17 := fun (W : World) (h : φ18 W) => (q18' W h).2.2.2.2
 replace hm := bnd hm
 obtain ⟨⟨x19, x20⟩, hx21, hm⟩ := hm
 refine g_cn ⟨w0, M, _, _, φ18⟩ (fun _ h => h) Try.call18 rfl rfl (c_raft_Tick x4 A6 c7 hc7 (fun W h => f8 W h) A9 c10 hc10 (fun W h => f11 W h) A12 c13 hc13 (fun W h => f14 W h) A15 c16 hc16 (fun W h => f17 W h) 5 _ hx21) (fun ⟨A22, c23, A25, c26, A28, c29, A31, c32, A34, c35, ps37⟩ ⟨hc23, hc26, hc29, hc32, hc35⟩ => ?_)
 refine g_sta _ (fun W h => (ok_frontR (t := 2004) (t' := 100114) h rfl)) ?_
 refine g_abs (fun φ39 q39' => ?_)
 have q39 : ∀ W, φ39 W → φ18 W := fun W h => (q39' W h).1
 have f24 := fun (W : World) (h : φ39 W) => (q39' W h).2.1
 have f27 := fun (W : World) (h : φ39 W) => (q39' W h).2.2.1
 have f30 := fun (W : World) (h : φ39 W) => (q39' W h).2.2.2.1
 have f33 := fun (W : World) (h : φ39 W) => (q39' W h).2.2.2.2.1
 have f38 := fun (W : World) (h : φ39 W) => (q39' W h).2.2.2.2.2
 refine g_v rfl r_move <| g_v rfl (r_extract rfl rfl) <| g_v rfl (r_extract rfl rfl) ?_
 refine g_e rfl (e_alloc 100010 Try.zeroValue43) (fun g41 _ => ?_)
 refine g_storeL (tag := 100010) rfl rfl rfl rfl Try.sizeOf43 rfl rfl <| g_v rfl r_assign <| g_nil <| d_then ?_
 refine c_flat [(1, .pointer (some ⟨g41, 0, none⟩))] ⟨rfl, trivial⟩ (fun u => ?_)
 refine c_sta ⟨w0, M, (100010, g41, .cells #[.int .i64 x19.fMe, .int .i64 x19.fRole, .int .i64 x19.fLeader, .int .i64 x19.fCommit, .int .i64 x19.fLeft, .int .i64 x19.fHard.fTerm, .int .i64 x19.fHard.fVote, .slice A22 x19.fHard.fVoters.length c23, .string x19.fHard.fSnap, .int .i64 x19.fHard.fLog.fBase, .int .i64 x19.fHard.fLog.fBaseTerm, .slice A25 x19.fHard.fLog.fEntries.length c26, .slice A28 x19.fVotes.length c29, .slice A31 x19.fMarks.length c32] 43 (0, 0)) :: H, (100114, ⟨.slice A34 x20.length c35, 25, 11, x20.length, (x20.zip ps37).flatMap GNote.encP⟩) :: R, φ39⟩ (fun _ h => h) <| c_seq <| c_region ?_
 refine g_e rfl (e_lit (tag := 100150) (l := [0, 1, 2]) (enc := (fun x : Int => [Value.int .i64 x])) (sz := 1) rfl Try.underlying23 (lit3_17 _ _ _) rfl rfl (fun _ => rfl)) (fun g42 _ => ?_)
 refine g_v rfl (r_build _ rfl (bld40_1 _ _ _)) ?_
 refine g_shut (tag := 100150) rfl (fun φ43 q43' => ?_)
 have q43 : ∀ W, φ43 W → φ39 W := fun W h => (q43' W h).1
 have f44 := fun (W : World) (h : φ43 W) => (q43' W h).2
 replace hm := bnd hm
 obtain ⟨x45, hx46, hm⟩ := hm
 refine g_cn ⟨w0, M, _, _, φ43⟩ (fun _ h => h) Try.call16 rfl rfl (c_raft_New 0 (⟨0, 0, [0, 1, 2], (⟨#[]⟩ : ByteArray), (⟨0, 0, ([] : List GEntry)⟩ : GLog)⟩ : GHard) (some ⟨g42, 0, none⟩) 3 (Nat.le_refl _) (fun W h => f44 W h) none 0 (Nat.le_refl 0) (fun W _ => Cl.nil _ _) 0 _ hx46) (fun ⟨A47, c48, A50, c51, A53, c54, A56, c57⟩ ⟨hc48, hc51, hc54, hc57⟩ => ?_)
 refine g_abs (fun φ59 q59' => ?_)
 have q59 : ∀ W, φ59 W → φ43 W := fun W h => (q59' W h).1
 have f49 := fun (W : World) (h : φ59 W) => (q59' W h).2.1
 have f52 := fun (W : World) (h : φ59 W) => (q59' W h).2.2.1
 have f55 := fun (W : World) (h : φ59 W) => (q59' W h).2.2.2.1
 have f58 := fun (W : World) (h : φ59 W) => (q59' W h).2.2.2.2
 replace hm := bnd hm
 obtain ⟨⟨x60, x61⟩, hx62, hm⟩ := hm
 refine g_cn ⟨w0, M, _, _, φ59⟩ (fun _ h => h) Try.call18 rfl rfl (c_raft_Tick x45 A47 c48 hc48 (fun W h => f49 W h) A50 c51 hc51 (fun W h => f52 W h) A53 c54 hc54 (fun W h => f55 W h) A56 c57 hc57 (fun W h => f58 W h) 7 _ hx62) (fun ⟨A63, c64, A66, c67, A69, c70, A72, c73, A75, c76, ps78⟩ ⟨hc64, hc67, hc70, hc73, hc76⟩ => ?_)
 refine g_sta _ (fun W h => (ok_frontR (t := 2004) (t' := 100184) h rfl)) ?_
 refine g_abs (fun φ80 q80' => ?_)
 have q80 : ∀ W, φ80 W → φ59 W := fun W h => (q80' W h).1
 have f65 := fun (W : World) (h : φ80 W) => (q80' W h).2.1
 have f68 := fun (W : World) (h : φ80 W) => (q80' W h).2.2.1
 have f71 := fun (W : World) (h : φ80 W) => (q80' W h).2.2.2.1
 have f74 := fun (W : World) (h : φ80 W) => (q80' W h).2.2.2.2.1
 have f79 := fun (W : World) (h : φ80 W) => (q80' W h).2.2.2.2.2
 refine g_v rfl r_move <| g_v rfl (r_extract rfl rfl) <| g_v rfl (r_extract rfl rfl) ?_
 refine g_e rfl (e_alloc 100030 Try.zeroValue43) (fun g82 _ => ?_)
 refine g_storeL (tag := 100030) rfl rfl rfl rfl Try.sizeOf43 rfl rfl <| g_v rfl r_assign <| g_nil <| d_then ?_
 refine c_flat [(1, .pointer (some ⟨g41, 0, none⟩)), (3, .pointer (some ⟨g82, 0, none⟩)), (4, .slice A75 x61.length c76)] ⟨rfl, rfl, rfl, trivial⟩ (fun u => ?_)
 refine c_sta ⟨w0, M, (100030, g82, .cells #[.int .i64 x60.fMe, .int .i64 x60.fRole, .int .i64 x60.fLeader, .int .i64 x60.fCommit, .int .i64 x60.fLeft, .int .i64 x60.fHard.fTerm, .int .i64 x60.fHard.fVote, .slice A63 x60.fHard.fVoters.length c64, .string x60.fHard.fSnap, .int .i64 x60.fHard.fLog.fBase, .int .i64 x60.fHard.fLog.fBaseTerm, .slice A66 x60.fHard.fLog.fEntries.length c67, .slice A69 x60.fVotes.length c70, .slice A72 x60.fMarks.length c73] 43 (0, 0)) :: (100010, g41, .cells #[.int .i64 x19.fMe, .int .i64 x19.fRole, .int .i64 x19.fLeader, .int .i64 x19.fCommit, .int .i64 x19.fLeft, .int .i64 x19.fHard.fTerm, .int .i64 x19.fHard.fVote, .slice A22 x19.fHard.fVoters.length c23, .string x19.fHard.fSnap, .int .i64 x19.fHard.fLog.fBase, .int .i64 x19.fHard.fLog.fBaseTerm, .slice A25 x19.fHard.fLog.fEntries.length c26, .slice A28 x19.fVotes.length c29, .slice A31 x19.fMarks.length c32] 43 (0, 0)) :: H, (100184, ⟨.slice A75 x61.length c76, 25, 11, x61.length, (x61.zip ps78).flatMap GNote.encP⟩) :: (100114, ⟨.slice A34 x20.length c35, 25, 11, x20.length, (x20.zip ps37).flatMap GNote.encP⟩) :: R, φ80⟩ (fun _ h => h) <| c_seq <| c_seq <| c_region <| g_v rfl r_move <| g_v rfl (r_lenL Try.underlying48 rfl) <| g_v rfl (r_neq rfl rfl) <| g_v rfl r_move ?_
 refine g_if rfl rfl rfl rfl rfl (fun h83 => ?_) (fun h83 => ?_)
 ·
  replace hm := ite_f hm (of_decide_eq_false h83)
  refine g_v rfl r_move <| g_do rfl rfl rfl rfl rfl h83 ?_
  replace hm := bnd hm
  obtain ⟨x84, hx84, hm⟩ := hm
  obtain ⟨pp88, hv89, hz90, hcp91⟩ := DOk.at_ hc76.1 hx84
  refine g_know _ (fun W hS => cl_at (p := (Sta.ok ⟨w0, M, (100030, g82, .cells #[.int .i64 x60.fMe, .int .i64 x60.fRole, .int .i64 x60.fLeader, .int .i64 x60.fCommit, .int .i64 x60.fLeft, .int .i64 x60.fHard.fTerm, .int .i64 x60.fHard.fVote, .slice A63 x60.fHard.fVoters.length c64, .string x60.fHard.fSnap, .int .i64 x60.fHard.fLog.fBase, .int .i64 x60.fHard.fLog.fBaseTerm, .slice A66 x60.fHard.fLog.fEntries.length c67, .slice A69 x60.fVotes.length c70, .slice A72 x60.fMarks.length c73] 43 (0, 0)) :: (100010, g41, .cells #[.int .i64 x19.fMe, .int .i64 x19.fRole, .int .i64 x19.fLeader, .int .i64 x19.fCommit, .int .i64 x19.fLeft, .int .i64 x19.fHard.fTerm, .int .i64 x19.fHard.fVote, .slice A22 x19.fHard.fVoters.length c23, .string x19.fHard.fSnap, .int .i64 x19.fHard.fLog.fBase, .int .i64 x19.fHard.fLog.fBaseTerm, .slice A25 x19.fHard.fLog.fEntries.length c26, .slice A28 x19.fVotes.length c29, .slice A31 x19.fMarks.length c32] 43 (0, 0)) :: H, (100184, ⟨.slice A75 x61.length c76, 25, 11, x61.length, (x61.zip ps78).flatMap GNote.encP⟩) :: (100114, ⟨.slice A34 x20.length c35, 25, 11, x20.length, (x20.zip ps37).flatMap GNote.encP⟩) :: R, φ80⟩)) (sz := 11) (fun _ => rfl) (by decide) hS (fun W hS => rowCl (S := ⟨w0, M, (100030, g82, .cells #[.int .i64 x60.fMe, .int .i64 x60.fRole, .int .i64 x60.fLeader, .int .i64 x60.fCommit, .int .i64 x60.fLeft, .int .i64 x60.fHard.fTerm, .int .i64 x60.fHard.fVote, .slice A63 x60.fHard.fVoters.length c64, .string x60.fHard.fSnap, .int .i64 x60.fHard.fLog.fBase, .int .i64 x60.fHard.fLog.fBaseTerm, .slice A66 x60.fHard.fLog.fEntries.length c67, .slice A69 x60.fVotes.length c70, .slice A72 x60.fMarks.length c73] 43 (0, 0)) :: (100010, g41, .cells #[.int .i64 x19.fMe, .int .i64 x19.fRole, .int .i64 x19.fLeader, .int .i64 x19.fCommit, .int .i64 x19.fLeft, .int .i64 x19.fHard.fTerm, .int .i64 x19.fHard.fVote, .slice A22 x19.fHard.fVoters.length c23, .string x19.fHard.fSnap, .int .i64 x19.fHard.fLog.fBase, .int .i64 x19.fHard.fLog.fBaseTerm, .slice A25 x19.fHard.fLog.fEntries.length c26, .slice A28 x19.fVotes.length c29, .slice A31 x19.fMarks.length c32] 43 (0, 0)) :: H, (100184, ⟨.slice A75 x61.length c76, 25, 11, x61.length, (x61.zip ps78).flatMap GNote.encP⟩) :: (100114, ⟨.slice A34 x20.length c35, 25, 11, x20.length, (x20.zip ps37).flatMap GNote.encP⟩) :: R, φ80⟩) (tag := 100184) rfl W hS) hv89) ?_
  rintro ⟨ad85, hA87, f86⟩
  have f92 := fun (W : World) (h : φ80 W) => (f79 W h _ hz90).1
  have f93 := fun (W : World) (h : φ80 W) => (f79 W h _ hz90).2
  refine g_v rfl (r_ix Try.underlying48 Try.sizeOf25 rfl hA87 rfl hx84) <| g_do rfl rfl rfl rfl rfl h83 ?_
  have f94 := fun (W : World) (h : (Sta.ok ⟨w0, M, (100030, g82, .cells #[.int .i64 x60.fMe, .int .i64 x60.fRole, .int .i64 x60.fLeader, .int .i64 x60.fCommit, .int .i64 x60.fLeft, .int .i64 x60.fHard.fTerm, .int .i64 x60.fHard.fVote, .slice A63 x60.fHard.fVoters.length c64, .string x60.fHard.fSnap, .int .i64 x60.fHard.fLog.fBase, .int .i64 x60.fHard.fLog.fBaseTerm, .slice A66 x60.fHard.fLog.fEntries.length c67, .slice A69 x60.fVotes.length c70, .slice A72 x60.fMarks.length c73] 43 (0, 0)) :: (100010, g41, .cells #[.int .i64 x19.fMe, .int .i64 x19.fRole, .int .i64 x19.fLeader, .int .i64 x19.fCommit, .int .i64 x19.fLeft, .int .i64 x19.fHard.fTerm, .int .i64 x19.fHard.fVote, .slice A22 x19.fHard.fVoters.length c23, .string x19.fHard.fSnap, .int .i64 x19.fHard.fLog.fBase, .int .i64 x19.fHard.fLog.fBaseTerm, .slice A25 x19.fHard.fLog.fEntries.length c26, .slice A28 x19.fVotes.length c29, .slice A31 x19.fMarks.length c32] 43 (0, 0)) :: H, (100184, ⟨.slice A75 x61.length c76, 25, 11, x61.length, (x61.zip ps78).flatMap GNote.encP⟩) :: (100114, ⟨.slice A34 x20.length c35, 25, 11, x20.length, (x20.zip ps37).flatMap GNote.encP⟩) :: R, φ80⟩) W) => Cl.drop (f86 W h) 2
  refine g_v rfl (r_fieldF Try.underlying25 rfl Try.sizeOf3 rfl) <| g_do rfl rfl rfl rfl rfl h83 <| g_v rfl (r_ld rfl Try.isAgg3 (fun W hS => Cl.head (f94 W hS))) <| g_do rfl rfl rfl rfl rfl h83 <| g_v rfl (r_neq rfl rfl) <| g_v rfl (r_pick0 rfl h83) <| g_v rfl r_move ?_
  refine g_if rfl rfl rfl rfl rfl (fun h95 => ?_) (fun h95 => ?_)
  ·
   replace hm := ite_f hm (of_decide_eq_false h95)
   refine g_v rfl r_move <| g_do rfl rfl rfl rfl rfl h95 ?_
   replace hm := bnd hm
   obtain ⟨x96, hx96, hm⟩ := hm
   obtain ⟨pp100, hv101, hz102, hcp103⟩ := DOk.at_ hc76.1 hx96
   refine g_know _ (fun W hS => cl_at (p := (Sta.ok ⟨w0, M, (100030, g82, .cells #[.int .i64 x60.fMe, .int .i64 x60.fRole, .int .i64 x60.fLeader, .int .i64 x60.fCommit, .int .i64 x60.fLeft, .int .i64 x60.fHard.fTerm, .int .i64 x60.fHard.fVote, .slice A63 x60.fHard.fVoters.length c64, .string x60.fHard.fSnap, .int .i64 x60.fHard.fLog.fBase, .int .i64 x60.fHard.fLog.fBaseTerm, .slice A66 x60.fHard.fLog.fEntries.length c67, .slice A69 x60.fVotes.length c70, .slice A72 x60.fMarks.length c73] 43 (0, 0)) :: (100010, g41, .cells #[.int .i64 x19.fMe, .int .i64 x19.fRole, .int .i64 x19.fLeader, .int .i64 x19.fCommit, .int .i64 x19.fLeft, .int .i64 x19.fHard.fTerm, .int .i64 x19.fHard.fVote, .slice A22 x19.fHard.fVoters.length c23, .string x19.fHard.fSnap, .int .i64 x19.fHard.fLog.fBase, .int .i64 x19.fHard.fLog.fBaseTerm, .slice A25 x19.fHard.fLog.fEntries.length c26, .slice A28 x19.fVotes.length c29, .slice A31 x19.fMarks.length c32] 43 (0, 0)) :: H, (100184, ⟨.slice A75 x61.length c76, 25, 11, x61.length, (x61.zip ps78).flatMap GNote.encP⟩) :: (100114, ⟨.slice A34 x20.length c35, 25, 11, x20.length, (x20.zip ps37).flatMap GNote.encP⟩) :: R, φ80⟩)) (sz := 11) (fun _ => rfl) (by decide) hS (fun W hS => rowCl (S := ⟨w0, M, (100030, g82, .cells #[.int .i64 x60.fMe, .int .i64 x60.fRole, .int .i64 x60.fLeader, .int .i64 x60.fCommit, .int .i64 x60.fLeft, .int .i64 x60.fHard.fTerm, .int .i64 x60.fHard.fVote, .slice A63 x60.fHard.fVoters.length c64, .string x60.fHard.fSnap, .int .i64 x60.fHard.fLog.fBase, .int .i64 x60.fHard.fLog.fBaseTerm, .slice A66 x60.fHard.fLog.fEntries.length c67, .slice A69 x60.fVotes.length c70, .slice A72 x60.fMarks.length c73] 43 (0, 0)) :: (100010, g41, .cells #[.int .i64 x19.fMe, .int .i64 x19.fRole, .int .i64 x19.fLeader, .int .i64 x19.fCommit, .int .i64 x19.fLeft, .int .i64 x19.fHard.fTerm, .int .i64 x19.fHard.fVote, .slice A22 x19.fHard.fVoters.length c23, .string x19.fHard.fSnap, .int .i64 x19.fHard.fLog.fBase, .int .i64 x19.fHard.fLog.fBaseTerm, .slice A25 x19.fHard.fLog.fEntries.length c26, .slice A28 x19.fVotes.length c29, .slice A31 x19.fMarks.length c32] 43 (0, 0)) :: H, (100184, ⟨.slice A75 x61.length c76, 25, 11, x61.length, (x61.zip ps78).flatMap GNote.encP⟩) :: (100114, ⟨.slice A34 x20.length c35, 25, 11, x20.length, (x20.zip ps37).flatMap GNote.encP⟩) :: R, φ80⟩) (tag := 100184) rfl W hS) hv101) ?_
   rintro ⟨ad97, hA99, f98⟩
   have f104 := fun (W : World) (h : φ80 W) => (f79 W h _ hz102).1
   have f105 := fun (W : World) (h : φ80 W) => (f79 W h _ hz102).2
   refine g_v rfl (r_ix Try.underlying48 Try.sizeOf25 rfl hA99 rfl hx96) <| g_do rfl rfl rfl rfl rfl h95 ?_
   have f106 := fun (W : World) (h : (Sta.ok ⟨w0, M, (100030, g82, .cells #[.int .i64 x60.fMe, .int .i64 x60.fRole, .int .i64 x60.fLeader, .int .i64 x60.fCommit, .int .i64 x60.fLeft, .int .i64 x60.fHard.fTerm, .int .i64 x60.fHard.fVote, .slice A63 x60.fHard.fVoters.length c64, .string x60.fHard.fSnap, .int .i64 x60.fHard.fLog.fBase, .int .i64 x60.fHard.fLog.fBaseTerm, .slice A66 x60.fHard.fLog.fEntries.length c67, .slice A69 x60.fVotes.length c70, .slice A72 x60.fMarks.length c73] 43 (0, 0)) :: (100010, g41, .cells #[.int .i64 x19.fMe, .int .i64 x19.fRole, .int .i64 x19.fLeader, .int .i64 x19.fCommit, .int .i64 x19.fLeft, .int .i64 x19.fHard.fTerm, .int .i64 x19.fHard.fVote, .slice A22 x19.fHard.fVoters.length c23, .string x19.fHard.fSnap, .int .i64 x19.fHard.fLog.fBase, .int .i64 x19.fHard.fLog.fBaseTerm, .slice A25 x19.fHard.fLog.fEntries.length c26, .slice A28 x19.fVotes.length c29, .slice A31 x19.fMarks.length c32] 43 (0, 0)) :: H, (100184, ⟨.slice A75 x61.length c76, 25, 11, x61.length, (x61.zip ps78).flatMap GNote.encP⟩) :: (100114, ⟨.slice A34 x20.length c35, 25, 11, x20.length, (x20.zip ps37).flatMap GNote.encP⟩) :: R, φ80⟩) W) => Cl.drop (f98 W h) 0
   refine g_v rfl (r_fieldF Try.underlying25 rfl Try.sizeOf3 rfl) <| g_do rfl rfl rfl rfl rfl h95 <| g_v rfl (r_ld rfl Try.isAgg3 (fun W hS => Cl.head (f106 W hS))) <| g_do rfl rfl rfl rfl rfl h95 <| g_v rfl (r_neq rfl rfl) <| g_v rfl (r_pick0 rfl h95) <| g_nil <| d_then ?_
   refine c_flat [(1, .pointer (some ⟨g41, 0, none⟩)), (3, .pointer (some ⟨g82, 0, none⟩)), (37, .bool (decide (x96.fKind ≠ 1)))] ⟨rfl, rfl, rfl, trivial⟩ (fun u => ?_)
   refine c_cond rfl (fun h107 => ?_) (fun h107 => ?_)
   ·
    replace hm := ite_t hm (of_decide_eq_true h107)
    refine c_seq <| c_region <| g_v rfl r_assign <| g_nil <| d_then <| c_ret <| d_ret_then ?_
    replace hm := Option.some.inj hm
    subst hm
    refine d_retC () Try.results9 ?_ trivial (fun W h => ok_pre (H1 := [_, _]) (R1 := [_, _]) h (fun W hφ => (q2 _ (q18 _ (q39 _ (q43 _ (q59 _ (q80 _ hφ)))))))) (.inr rfl)
    refine res_tmp <| res_nil ?_
    exact rfl
   ·
    replace hm := ite_f hm (of_decide_eq_false h107)
    refine c_skip <| d_then <| c_seq <| c_region <| g_v rfl (r_loadA (tag := 100030) rfl rfl Try.isAgg43 Try.sizeOf43 rfl rfl) <| g_v rfl (r_build _ rfl (bld25_18 _ _ _ _ _)) ?_
    replace hm := bnd hm
    obtain ⟨⟨x108, x109⟩, hx110, hm⟩ := hm
    refine g_cn ⟨w0, M, _, _, φ80⟩ (fun _ h => h) Try.call17 rfl rfl (c_raft_Receive x60 A63 c64 hc64 (fun W h => f65 W h) A66 c67 hc67 (fun W h => f68 W h) A69 c70 hc70 (fun W h => f71 W h) A72 c73 hc73 (fun W h => f74 W h) (⟨2, 1, 0, 1, 0, 0, 0, true, ([] : List GEntry), ([] : List Int), (⟨#[]⟩ : ByteArray)⟩ : GNote) none 0 (Nat.le_refl 0) (fun W _ => Cl.nil _ _) none 0 (Nat.le_refl 0) (fun W _ => Cl.nil _ _) 5 _ hx110) (fun ⟨A111, c112, A114, c115, A117, c118, A120, c121, A123, c124, ps126⟩ ⟨hc112, hc115, hc118, hc121, hc124⟩ => ?_)
    refine g_sta _ (fun W h => (ok_frontR (t := 2004) (t' := 100414) h rfl)) ?_
    refine g_abs (fun φ128 q128' => ?_)
    have q128 : ∀ W, φ128 W → φ80 W := fun W h => (q128' W h).1
    have f113 := fun (W : World) (h : φ128 W) => (q128' W h).2.1
    have f116 := fun (W : World) (h : φ128 W) => (q128' W h).2.2.1
    have f119 := fun (W : World) (h : φ128 W) => (q128' W h).2.2.2.1
    have f122 := fun (W : World) (h : φ128 W) => (q128' W h).2.2.2.2.1
    have f127 := fun (W : World) (h : φ128 W) => (q128' W h).2.2.2.2.2
    refine g_v rfl r_move <| g_v rfl (r_extract rfl rfl) <| g_v rfl (r_extract rfl rfl) ?_
    refine g_e rfl (e_alloc 100050 Try.zeroValue43) (fun g130 _ => ?_)
    refine g_storeL (tag := 100050) rfl rfl rfl rfl Try.sizeOf43 rfl rfl <| g_v rfl r_assign <| g_nil <| d_then ?_
    refine c_flat [(1, .pointer (some ⟨g41, 0, none⟩)), (3, .pointer (some ⟨g82, 0, none⟩)), (5, .pointer (some ⟨g130, 0, none⟩)), (6, .slice A123 x109.length c124)] ⟨rfl, rfl, rfl, rfl, trivial⟩ (fun u => ?_)
    refine c_sta ⟨w0, M, (100050, g130, .cells #[.int .i64 x108.fMe, .int .i64 x108.fRole, .int .i64 x108.fLeader, .int .i64 x108.fCommit, .int .i64 x108.fLeft, .int .i64 x108.fHard.fTerm, .int .i64 x108.fHard.fVote, .slice A111 x108.fHard.fVoters.length c112, .string x108.fHard.fSnap, .int .i64 x108.fHard.fLog.fBase, .int .i64 x108.fHard.fLog.fBaseTerm, .slice A114 x108.fHard.fLog.fEntries.length c115, .slice A117 x108.fVotes.length c118, .slice A120 x108.fMarks.length c121] 43 (0, 0)) :: (100030, g82, .cells #[.int .i64 x60.fMe, .int .i64 x60.fRole, .int .i64 x60.fLeader, .int .i64 x60.fCommit, .int .i64 x60.fLeft, .int .i64 x60.fHard.fTerm, .int .i64 x60.fHard.fVote, .slice A63 x60.fHard.fVoters.length c64, .string x60.fHard.fSnap, .int .i64 x60.fHard.fLog.fBase, .int .i64 x60.fHard.fLog.fBaseTerm, .slice A66 x60.fHard.fLog.fEntries.length c67, .slice A69 x60.fVotes.length c70, .slice A72 x60.fMarks.length c73] 43 (0, 0)) :: (100010, g41, .cells #[.int .i64 x19.fMe, .int .i64 x19.fRole, .int .i64 x19.fLeader, .int .i64 x19.fCommit, .int .i64 x19.fLeft, .int .i64 x19.fHard.fTerm, .int .i64 x19.fHard.fVote, .slice A22 x19.fHard.fVoters.length c23, .string x19.fHard.fSnap, .int .i64 x19.fHard.fLog.fBase, .int .i64 x19.fHard.fLog.fBaseTerm, .slice A25 x19.fHard.fLog.fEntries.length c26, .slice A28 x19.fVotes.length c29, .slice A31 x19.fMarks.length c32] 43 (0, 0)) :: H, (100414, ⟨.slice A123 x109.length c124, 25, 11, x109.length, (x109.zip ps126).flatMap GNote.encP⟩) :: (100184, ⟨.slice A75 x61.length c76, 25, 11, x61.length, (x61.zip ps78).flatMap GNote.encP⟩) :: (100114, ⟨.slice A34 x20.length c35, 25, 11, x20.length, (x20.zip ps37).flatMap GNote.encP⟩) :: R, φ128⟩ (fun _ h => h) <| c_seq <| c_region <| g_v rfl (r_field (n := 1) Try.underlying43 rfl Try.sizeOf3 rfl rfl) <| g_v rfl (r_load (tag := 100010) rfl rfl rfl Try.isAgg3) <| g_v rfl (r_eql rfl rfl) <| g_v rfl r_move ?_
    refine g_if rfl rfl rfl rfl rfl (fun h131 => ?_) (fun h131 => ?_)
    ·
     replace hm := ite_t hm (of_decide_eq_true h131)
     refine g_v rfl (r_field (n := 5) Try.underlying43 rfl Try.sizeOf40 rfl rfl) <| g_do rfl rfl rfl rfl rfl h131 <| g_v rfl (r_field (n := 5) Try.underlying40 rfl Try.sizeOf3 rfl rfl) <| g_do rfl rfl rfl rfl rfl h131 <| g_v rfl (r_load (tag := 100010) rfl rfl rfl Try.isAgg3) <| g_do rfl rfl rfl rfl rfl h131 <| g_v rfl (r_eql rfl rfl) <| g_v rfl (r_pick1 rfl h131) <| g_v rfl r_move ?_
     refine g_if rfl rfl rfl rfl rfl (fun h132 => ?_) (fun h132 => ?_)
     ·
      replace hm := ite_t hm (of_decide_eq_true h132)
      refine g_v rfl (r_field (n := 3) Try.underlying43 rfl Try.sizeOf3 rfl rfl) <| g_do rfl rfl rfl rfl rfl h132 <| g_v rfl (r_load (tag := 100010) rfl rfl rfl Try.isAgg3) <| g_do rfl rfl rfl rfl rfl h132 <| g_v rfl (r_eql rfl rfl) <| g_v rfl (r_pick1 rfl h132) <| g_v rfl r_move ?_
      refine g_if rfl rfl rfl rfl rfl (fun h133 => ?_) (fun h133 => ?_)
      ·
       replace hm := ite_t hm (of_decide_eq_true h133)
       refine g_v rfl (r_field (n := 4) Try.underlying43 rfl Try.sizeOf3 rfl rfl) <| g_do rfl rfl rfl rfl rfl h133 <| g_v rfl (r_load (tag := 100030) rfl rfl rfl Try.isAgg3) <| g_do rfl rfl rfl rfl rfl h133 <| g_v rfl (r_eql rfl rfl) <| g_v rfl (r_pick1 rfl h133) <| g_v rfl r_move ?_
       refine g_if rfl rfl rfl rfl rfl (fun h134 => ?_) (fun h134 => ?_)
       ·
        replace hm := ite_t hm (of_decide_eq_true h134)
        refine g_v rfl (r_field (n := 1) Try.underlying43 rfl Try.sizeOf3 rfl rfl) <| g_do rfl rfl rfl rfl rfl h134 <| g_v rfl (r_load (tag := 100030) rfl rfl rfl Try.isAgg3) <| g_do rfl rfl rfl rfl rfl h134 <| g_v rfl (r_eql rfl rfl) <| g_v rfl (r_pick1 rfl h134) <| g_v rfl r_move ?_
        refine g_if rfl rfl rfl rfl rfl (fun h135 => ?_) (fun h135 => ?_)
        ·
         replace hm := ite_t hm (of_decide_eq_true h135)
         refine g_v rfl (r_field (n := 1) Try.underlying43 rfl Try.sizeOf3 rfl rfl) <| g_do rfl rfl rfl rfl rfl h135 <| g_v rfl (r_load (tag := 100050) rfl rfl rfl Try.isAgg3) <| g_do rfl rfl rfl rfl rfl h135 <| g_v rfl (r_eql rfl rfl) <| g_v rfl (r_pick1 rfl h135) <| g_v rfl r_move ?_
         refine g_if rfl rfl rfl rfl rfl (fun h136 => ?_) (fun h136 => ?_)
         ·
          replace hm := ite_t hm (of_decide_eq_true h136)
          refine g_v rfl r_move <| g_do rfl rfl rfl rfl rfl h136 <| g_v rfl (r_lenL Try.underlying48 rfl) <| g_do rfl rfl rfl rfl rfl h136 <| g_v rfl (r_eql rfl rfl) <| g_v rfl (r_pick1 rfl h136) <| g_v rfl r_move ?_
          refine g_if rfl rfl rfl rfl rfl (fun h137 => ?_) (fun h137 => ?_)
          ·
           replace hm := ite_t hm (of_decide_eq_true h137)
           refine g_v rfl r_move <| g_do rfl rfl rfl rfl rfl h137 ?_
           replace hm := bnd hm
           obtain ⟨x138, hx138, hm⟩ := hm
           obtain ⟨pp142, hv143, hz144, hcp145⟩ := DOk.at_ hc124.1 hx138
           refine g_know _ (fun W hS => cl_at (p := (Sta.ok ⟨w0, M, (100050, g130, .cells #[.int .i64 x108.fMe, .int .i64 x108.fRole, .int .i64 x108.fLeader, .int .i64 x108.fCommit, .int .i64 x108.fLeft, .int .i64 x108.fHard.fTerm, .int .i64 x108.fHard.fVote, .slice A111 x108.fHard.fVoters.length c112, .string x108.fHard.fSnap, .int .i64 x108.fHard.fLog.fBase, .int .i64 x108.fHard.fLog.fBaseTerm, .slice A114 x108.fHard.fLog.fEntries.length c115, .slice A117 x108.fVotes.length c118, .slice A120 x108.fMarks.length c121] 43 (0, 0)) :: (100030, g82, .cells #[.int .i64 x60.fMe, .int .i64 x60.fRole, .int .i64 x60.fLeader, .int .i64 x60.fCommit, .int .i64 x60.fLeft, .int .i64 x60.fHard.fTerm, .int .i64 x60.fHard.fVote, .slice A63 x60.fHard.fVoters.length c64, .string x60.fHard.fSnap, .int .i64 x60.fHard.fLog.fBase, .int .i64 x60.fHard.fLog.fBaseTerm, .slice A66 x60.fHard.fLog.fEntries.length c67, .slice A69 x60.fVotes.length c70, .slice A72 x60.fMarks.length c73] 43 (0, 0)) :: (100010, g41, .cells #[.int .i64 x19.fMe, .int .i64 x19.fRole, .int .i64 x19.fLeader, .int .i64 x19.fCommit, .int .i64 x19.fLeft, .int .i64 x19.fHard.fTerm, .int .i64 x19.fHard.fVote, .slice A22 x19.fHard.fVoters.length c23, .string x19.fHard.fSnap, .int .i64 x19.fHard.fLog.fBase, .int .i64 x19.fHard.fLog.fBaseTerm, .slice A25 x19.fHard.fLog.fEntries.length c26, .slice A28 x19.fVotes.length c29, .slice A31 x19.fMarks.length c32] 43 (0, 0)) :: H, (100414, ⟨.slice A123 x109.length c124, 25, 11, x109.length, (x109.zip ps126).flatMap GNote.encP⟩) :: (100184, ⟨.slice A75 x61.length c76, 25, 11, x61.length, (x61.zip ps78).flatMap GNote.encP⟩) :: (100114, ⟨.slice A34 x20.length c35, 25, 11, x20.length, (x20.zip ps37).flatMap GNote.encP⟩) :: R, φ128⟩)) (sz := 11) (fun _ => rfl) (by decide) hS (fun W hS => rowCl (S := ⟨w0, M, (100050, g130, .cells #[.int .i64 x108.fMe, .int .i64 x108.fRole, .int .i64 x108.fLeader, .int .i64 x108.fCommit, .int .i64 x108.fLeft, .int .i64 x108.fHard.fTerm, .int .i64 x108.fHard.fVote, .slice A111 x108.fHard.fVoters.length c112, .string x108.fHard.fSnap, .int .i64 x108.fHard.fLog.fBase, .int .i64 x108.fHard.fLog.fBaseTerm, .slice A114 x108.fHard.fLog.fEntries.length c115, .slice A117 x108.fVotes.length c118, .slice A120 x108.fMarks.length c121] 43 (0, 0)) :: (100030, g82, .cells #[.int .i64 x60.fMe, .int .i64 x60.fRole, .int .i64 x60.fLeader, .int .i64 x60.fCommit, .int .i64 x60.fLeft, .int .i64 x60.fHard.fTerm, .int .i64 x60.fHard.fVote, .slice A63 x60.fHard.fVoters.length c64, .string x60.fHard.fSnap, .int .i64 x60.fHard.fLog.fBase, .int .i64 x60.fHard.fLog.fBaseTerm, .slice A66 x60.fHard.fLog.fEntries.length c67, .slice A69 x60.fVotes.length c70, .slice A72 x60.fMarks.length c73] 43 (0, 0)) :: (100010, g41, .cells #[.int .i64 x19.fMe, .int .i64 x19.fRole, .int .i64 x19.fLeader, .int .i64 x19.fCommit, .int .i64 x19.fLeft, .int .i64 x19.fHard.fTerm, .int .i64 x19.fHard.fVote, .slice A22 x19.fHard.fVoters.length c23, .string x19.fHard.fSnap, .int .i64 x19.fHard.fLog.fBase, .int .i64 x19.fHard.fLog.fBaseTerm, .slice A25 x19.fHard.fLog.fEntries.length c26, .slice A28 x19.fVotes.length c29, .slice A31 x19.fMarks.length c32] 43 (0, 0)) :: H, (100414, ⟨.slice A123 x109.length c124, 25, 11, x109.length, (x109.zip ps126).flatMap GNote.encP⟩) :: (100184, ⟨.slice A75 x61.length c76, 25, 11, x61.length, (x61.zip ps78).flatMap GNote.encP⟩) :: (100114, ⟨.slice A34 x20.length c35, 25, 11, x20.length, (x20.zip ps37).flatMap GNote.encP⟩) :: R, φ128⟩) (tag := 100414) rfl W hS) hv143) ?_
           rintro ⟨ad139, hA141, f140⟩
           have f146 := fun (W : World) (h : φ128 W) => (f127 W h _ hz144).1
           have f147 := fun (W : World) (h : φ128 W) => (f127 W h _ hz144).2
           refine g_v rfl (r_ix Try.underlying48 Try.sizeOf25 rfl hA141 rfl hx138) <| g_do rfl rfl rfl rfl rfl h137 ?_
           have f148 := fun (W : World) (h : (Sta.ok ⟨w0, M, (100050, g130, .cells #[.int .i64 x108.fMe, .int .i64 x108.fRole, .int .i64 x108.fLeader, .int .i64 x108.fCommit, .int .i64 x108.fLeft, .int .i64 x108.fHard.fTerm, .int .i64 x108.fHard.fVote, .slice A111 x108.fHard.fVoters.length c112, .string x108.fHard.fSnap, .int .i64 x108.fHard.fLog.fBase, .int .i64 x108.fHard.fLog.fBaseTerm, .slice A114 x108.fHard.fLog.fEntries.length c115, .slice A117 x108.fVotes.length c118, .slice A120 x108.fMarks.length c121] 43 (0, 0)) :: (100030, g82, .cells #[.int .i64 x60.fMe, .int .i64 x60.fRole, .int .i64 x60.fLeader, .int .i64 x60.fCommit, .int .i64 x60.fLeft, .int .i64 x60.fHard.fTerm, .int .i64 x60.fHard.fVote, .slice A63 x60.fHard.fVoters.length c64, .string x60.fHard.fSnap, .int .i64 x60.fHard.fLog.fBase, .int .i64 x60.fHard.fLog.fBaseTerm, .slice A66 x60.fHard.fLog.fEntries.length c67, .slice A69 x60.fVotes.length c70, .slice A72 x60.fMarks.length c73] 43 (0, 0)) :: (100010, g41, .cells #[.int .i64 x19.fMe, .int .i64 x19.fRole, .int .i64 x19.fLeader, .int .i64 x19.fCommit, .int .i64 x19.fLeft, .int .i64 x19.fHard.fTerm, .int .i64 x19.fHard.fVote, .slice A22 x19.fHard.fVoters.length c23, .string x19.fHard.fSnap, .int .i64 x19.fHard.fLog.fBase, .int .i64 x19.fHard.fLog.fBaseTerm, .slice A25 x19.fHard.fLog.fEntries.length c26, .slice A28 x19.fVotes.length c29, .slice A31 x19.fMarks.length c32] 43 (0, 0)) :: H, (100414, ⟨.slice A123 x109.length c124, 25, 11, x109.length, (x109.zip ps126).flatMap GNote.encP⟩) :: (100184, ⟨.slice A75 x61.length c76, 25, 11, x61.length, (x61.zip ps78).flatMap GNote.encP⟩) :: (100114, ⟨.slice A34 x20.length c35, 25, 11, x20.length, (x20.zip ps37).flatMap GNote.encP⟩) :: R, φ128⟩) W) => Cl.drop (f140 W h) 0
           refine g_v rfl (r_fieldF Try.underlying25 rfl Try.sizeOf3 rfl) <| g_do rfl rfl rfl rfl rfl h137 <| g_v rfl (r_ld rfl Try.isAgg3 (fun W hS => Cl.head (f148 W hS))) <| g_do rfl rfl rfl rfl rfl h137 <| g_v rfl (r_eql rfl rfl) <| g_v rfl (r_pick1 rfl h137) <| g_v rfl r_move ?_
           refine g_if rfl rfl rfl rfl rfl (fun h149 => ?_) (fun h149 => ?_)
           ·
            replace hm := ite_t hm (of_decide_eq_true h149)
            refine g_v rfl r_move <| g_do rfl rfl rfl rfl rfl h149 ?_
            replace hm := bnd hm
            obtain ⟨x150, hx150, hm⟩ := hm
            obtain ⟨pp154, hv155, hz156, hcp157⟩ := DOk.at_ hc124.1 hx150
            refine g_know _ (fun W hS => cl_at (p := (Sta.ok ⟨w0, M, (100050, g130, .cells #[.int .i64 x108.fMe, .int .i64 x108.fRole, .int .i64 x108.fLeader, .int .i64 x108.fCommit, .int .i64 x108.fLeft, .int .i64 x108.fHard.fTerm, .int .i64 x108.fHard.fVote, .slice A111 x108.fHard.fVoters.length c112, .string x108.fHard.fSnap, .int .i64 x108.fHard.fLog.fBase, .int .i64 x108.fHard.fLog.fBaseTerm, .slice A114 x108.fHard.fLog.fEntries.length c115, .slice A117 x108.fVotes.length c118, .slice A120 x108.fMarks.length c121] 43 (0, 0)) :: (100030, g82, .cells #[.int .i64 x60.fMe, .int .i64 x60.fRole, .int .i64 x60.fLeader, .int .i64 x60.fCommit, .int .i64 x60.fLeft, .int .i64 x60.fHard.fTerm, .int .i64 x60.fHard.fVote, .slice A63 x60.fHard.fVoters.length c64, .string x60.fHard.fSnap, .int .i64 x60.fHard.fLog.fBase, .int .i64 x60.fHard.fLog.fBaseTerm, .slice A66 x60.fHard.fLog.fEntries.length c67, .slice A69 x60.fVotes.length c70, .slice A72 x60.fMarks.length c73] 43 (0, 0)) :: (100010, g41, .cells #[.int .i64 x19.fMe, .int .i64 x19.fRole, .int .i64 x19.fLeader, .int .i64 x19.fCommit, .int .i64 x19.fLeft, .int .i64 x19.fHard.fTerm, .int .i64 x19.fHard.fVote, .slice A22 x19.fHard.fVoters.length c23, .string x19.fHard.fSnap, .int .i64 x19.fHard.fLog.fBase, .int .i64 x19.fHard.fLog.fBaseTerm, .slice A25 x19.fHard.fLog.fEntries.length c26, .slice A28 x19.fVotes.length c29, .slice A31 x19.fMarks.length c32] 43 (0, 0)) :: H, (100414, ⟨.slice A123 x109.length c124, 25, 11, x109.length, (x109.zip ps126).flatMap GNote.encP⟩) :: (100184, ⟨.slice A75 x61.length c76, 25, 11, x61.length, (x61.zip ps78).flatMap GNote.encP⟩) :: (100114, ⟨.slice A34 x20.length c35, 25, 11, x20.length, (x20.zip ps37).flatMap GNote.encP⟩) :: R, φ128⟩)) (sz := 11) (fun _ => rfl) (by decide) hS (fun W hS => rowCl (S := ⟨w0, M, (100050, g130, .cells #[.int .i64 x108.fMe, .int .i64 x108.fRole, .int .i64 x108.fLeader, .int .i64 x108.fCommit, .int .i64 x108.fLeft, .int .i64 x108.fHard.fTerm, .int .i64 x108.fHard.fVote, .slice A111 x108.fHard.fVoters.length c112, .string x108.fHard.fSnap, .int .i64 x108.fHard.fLog.fBase, .int .i64 x108.fHard.fLog.fBaseTerm, .slice A114 x108.fHard.fLog.fEntries.length c115, .slice A117 x108.fVotes.length c118, .slice A120 x108.fMarks.length c121] 43 (0, 0)) :: (100030, g82, .cells #[.int .i64 x60.fMe, .int .i64 x60.fRole, .int .i64 x60.fLeader, .int .i64 x60.fCommit, .int .i64 x60.fLeft, .int .i64 x60.fHard.fTerm, .int .i64 x60.fHard.fVote, .slice A63 x60.fHard.fVoters.length c64, .string x60.fHard.fSnap, .int .i64 x60.fHard.fLog.fBase, .int .i64 x60.fHard.fLog.fBaseTerm, .slice A66 x60.fHard.fLog.fEntries.length c67, .slice A69 x60.fVotes.length c70, .slice A72 x60.fMarks.length c73] 43 (0, 0)) :: (100010, g41, .cells #[.int .i64 x19.fMe, .int .i64 x19.fRole, .int .i64 x19.fLeader, .int .i64 x19.fCommit, .int .i64 x19.fLeft, .int .i64 x19.fHard.fTerm, .int .i64 x19.fHard.fVote, .slice A22 x19.fHard.fVoters.length c23, .string x19.fHard.fSnap, .int .i64 x19.fHard.fLog.fBase, .int .i64 x19.fHard.fLog.fBaseTerm, .slice A25 x19.fHard.fLog.fEntries.length c26, .slice A28 x19.fVotes.length c29, .slice A31 x19.fMarks.length c32] 43 (0, 0)) :: H, (100414, ⟨.slice A123 x109.length c124, 25, 11, x109.length, (x109.zip ps126).flatMap GNote.encP⟩) :: (100184, ⟨.slice A75 x61.length c76, 25, 11, x61.length, (x61.zip ps78).flatMap GNote.encP⟩) :: (100114, ⟨.slice A34 x20.length c35, 25, 11, x20.length, (x20.zip ps37).flatMap GNote.encP⟩) :: R, φ128⟩) (tag := 100414) rfl W hS) hv155) ?_
            rintro ⟨ad151, hA153, f152⟩
            have f158 := fun (W : World) (h : φ128 W) => (f127 W h _ hz156).1
            have f159 := fun (W : World) (h : φ128 W) => (f127 W h _ hz156).2
            refine g_v rfl (r_ix Try.underlying48 Try.sizeOf25 rfl hA153 rfl hx150) <| g_do rfl rfl rfl rfl rfl h149 ?_
            have f160 := fun (W : World) (h : (Sta.ok ⟨w0, M, (100050, g130, .cells #[.int .i64 x108.fMe, .int .i64 x108.fRole, .int .i64 x108.fLeader, .int .i64 x108.fCommit, .int .i64 x108.fLeft, .int .i64 x108.fHard.fTerm, .int .i64 x108.fHard.fVote, .slice A111 x108.fHard.fVoters.length c112, .string x108.fHard.fSnap, .int .i64 x108.fHard.fLog.fBase, .int .i64 x108.fHard.fLog.fBaseTerm, .slice A114 x108.fHard.fLog.fEntries.length c115, .slice A117 x108.fVotes.length c118, .slice A120 x108.fMarks.length c121] 43 (0, 0)) :: (100030, g82, .cells #[.int .i64 x60.fMe, .int .i64 x60.fRole, .int .i64 x60.fLeader, .int .i64 x60.fCommit, .int .i64 x60.fLeft, .int .i64 x60.fHard.fTerm, .int .i64 x60.fHard.fVote, .slice A63 x60.fHard.fVoters.length c64, .string x60.fHard.fSnap, .int .i64 x60.fHard.fLog.fBase, .int .i64 x60.fHard.fLog.fBaseTerm, .slice A66 x60.fHard.fLog.fEntries.length c67, .slice A69 x60.fVotes.length c70, .slice A72 x60.fMarks.length c73] 43 (0, 0)) :: (100010, g41, .cells #[.int .i64 x19.fMe, .int .i64 x19.fRole, .int .i64 x19.fLeader, .int .i64 x19.fCommit, .int .i64 x19.fLeft, .int .i64 x19.fHard.fTerm, .int .i64 x19.fHard.fVote, .slice A22 x19.fHard.fVoters.length c23, .string x19.fHard.fSnap, .int .i64 x19.fHard.fLog.fBase, .int .i64 x19.fHard.fLog.fBaseTerm, .slice A25 x19.fHard.fLog.fEntries.length c26, .slice A28 x19.fVotes.length c29, .slice A31 x19.fMarks.length c32] 43 (0, 0)) :: H, (100414, ⟨.slice A123 x109.length c124, 25, 11, x109.length, (x109.zip ps126).flatMap GNote.encP⟩) :: (100184, ⟨.slice A75 x61.length c76, 25, 11, x61.length, (x61.zip ps78).flatMap GNote.encP⟩) :: (100114, ⟨.slice A34 x20.length c35, 25, 11, x20.length, (x20.zip ps37).flatMap GNote.encP⟩) :: R, φ128⟩) W) => Cl.drop (f152 W h) 8
            refine g_v rfl (r_fieldF Try.underlying25 rfl Try.sizeOf22 rfl) <| g_do rfl rfl rfl rfl rfl h149 <| g_v rfl (r_ld rfl Try.isAgg22 (fun W hS => Cl.head (f160 W hS))) <| g_do rfl rfl rfl rfl rfl h149 <| g_v rfl (r_lenL Try.underlying22 rfl) <| g_do rfl rfl rfl rfl rfl h149 <| g_v rfl (r_eql rfl rfl) <| g_v rfl (r_pick1 rfl h149) <| g_v rfl r_move ?_
            refine g_if rfl rfl rfl rfl rfl (fun h161 => ?_) (fun h161 => ?_)
            ·
             replace hm := ite_t hm (of_decide_eq_true h161)
             refine g_e rfl (e_lit (tag := 100940) (l := [1, 2, 3]) (enc := (fun x : Int => [Value.int .i64 x])) (sz := 1) rfl Try.underlying23 (lit3_17 _ _ _) rfl rfl (fun _ => rfl)) (fun g162 _ => ?_)
             refine g_do rfl rfl rfl rfl rfl h161 ?_
             refine g_e rfl (e_lit (tag := 100950) (l := [3, 1]) (enc := (fun x : Int => [Value.int .i64 x])) (sz := 1) rfl Try.underlying23 (lit3_23 _ _) rfl rfl (fun _ => rfl)) (fun g163 _ => ?_)
             refine g_do rfl rfl rfl rfl rfl h161 ?_
             replace hm := bnd hm
             obtain ⟨x164, hx165, hm⟩ := hm
             refine g_cn ⟨w0, M, _, _, φ128⟩ (fun _ h => h) Try.call13 rfl rfl (c_raft_Majority [1, 2, 3] (some ⟨g162, 0, none⟩) 3 (Nat.le_refl _) (fun W hS => rowCl (tag := 100940) rfl W hS) [3, 1] (some ⟨g163, 0, none⟩) 2 (Nat.le_refl _) (fun W hS => rowCl (tag := 100950) rfl W hS) _ hx165) (fun _ _ => ?_)
             refine g_v rfl (r_pick1 rfl h161) <| g_v rfl r_assign <| g_nil <| d_then ?_
             refine c_flat [(0, .bool x164)] ⟨rfl, trivial⟩ (fun u => ?_)
             refine c_sta ⟨w0, M, (100050, g130, .cells #[.int .i64 x108.fMe, .int .i64 x108.fRole, .int .i64 x108.fLeader, .int .i64 x108.fCommit, .int .i64 x108.fLeft, .int .i64 x108.fHard.fTerm, .int .i64 x108.fHard.fVote, .slice A111 x108.fHard.fVoters.length c112, .string x108.fHard.fSnap, .int .i64 x108.fHard.fLog.fBase, .int .i64 x108.fHard.fLog.fBaseTerm, .slice A114 x108.fHard.fLog.fEntries.length c115, .slice A117 x108.fVotes.length c118, .slice A120 x108.fMarks.length c121] 43 (0, 0)) :: (100030, g82, .cells #[.int .i64 x60.fMe, .int .i64 x60.fRole, .int .i64 x60.fLeader, .int .i64 x60.fCommit, .int .i64 x60.fLeft, .int .i64 x60.fHard.fTerm, .int .i64 x60.fHard.fVote, .slice A63 x60.fHard.fVoters.length c64, .string x60.fHard.fSnap, .int .i64 x60.fHard.fLog.fBase, .int .i64 x60.fHard.fLog.fBaseTerm, .slice A66 x60.fHard.fLog.fEntries.length c67, .slice A69 x60.fVotes.length c70, .slice A72 x60.fMarks.length c73] 43 (0, 0)) :: (100010, g41, .cells #[.int .i64 x19.fMe, .int .i64 x19.fRole, .int .i64 x19.fLeader, .int .i64 x19.fCommit, .int .i64 x19.fLeft, .int .i64 x19.fHard.fTerm, .int .i64 x19.fHard.fVote, .slice A22 x19.fHard.fVoters.length c23, .string x19.fHard.fSnap, .int .i64 x19.fHard.fLog.fBase, .int .i64 x19.fHard.fLog.fBaseTerm, .slice A25 x19.fHard.fLog.fEntries.length c26, .slice A28 x19.fVotes.length c29, .slice A31 x19.fMarks.length c32] 43 (0, 0)) :: H, (100950, ⟨.slice (some ⟨g163, 0, none⟩) [3, 1].length 2, 3, 1, [3, 1].length, [3, 1].flatMap (fun x : Int => [Value.int .i64 x])⟩) :: (100940, ⟨.slice (some ⟨g162, 0, none⟩) [1, 2, 3].length 3, 3, 1, [1, 2, 3].length, [1, 2, 3].flatMap (fun x : Int => [Value.int .i64 x])⟩) :: (100414, ⟨.slice A123 x109.length c124, 25, 11, x109.length, (x109.zip ps126).flatMap GNote.encP⟩) :: (100184, ⟨.slice A75 x61.length c76, 25, 11, x61.length, (x61.zip ps78).flatMap GNote.encP⟩) :: (100114, ⟨.slice A34 x20.length c35, 25, 11, x20.length, (x20.zip ps37).flatMap GNote.encP⟩) :: R, φ128⟩ (fun _ h => h) <| c_ret ?_
             replace hm := Option.some.inj hm
             subst hm
             refine d_retC () Try.results9 ?_ trivial (fun W h => ok_pre (H1 := [_, _, _]) (R1 := [_, _, _, _, _]) h (fun W hφ => (q2 _ (q18 _ (q39 _ (q43 _ (q59 _ (q80 _ (q128 _ hφ))))))))) (.inr rfl)
             refine res_tmp <| res_nil ?_
             exact rfl
            ·
             replace hm := ite_f hm (of_decide_eq_false h161)
             refine g_no rfl rfl rfl rfl rfl h161 <| g_no rfl rfl rfl rfl rfl h161 <| g_v rfl (r_pick0 rfl h161) <| g_v rfl r_assign <| g_nil <| d_then ?_
             refine c_flat [(0, .bool false)] ⟨rfl, trivial⟩ (fun u => ?_)
             refine c_ret ?_
             replace hm := Option.some.inj hm
             subst hm
             refine d_retC () Try.results9 ?_ trivial (fun W h => ok_pre (H1 := [_, _, _]) (R1 := [_, _, _]) h (fun W hφ => (q2 _ (q18 _ (q39 _ (q43 _ (q59 _ (q80 _ (q128 _ hφ))))))))) (.inr rfl)
             refine res_tmp <| res_nil ?_
             exact rfl
           ·
            replace hm := ite_f hm (of_decide_eq_false h149)
            refine g_no rfl rfl rfl rfl rfl h149 <| g_no rfl rfl rfl rfl rfl h149 <| g_no rfl rfl rfl rfl rfl h149 <| g_no rfl rfl rfl rfl rfl h149 <| g_no rfl rfl rfl rfl rfl h149 <| g_v rfl (r_pick0 rfl h149) <| g_v rfl r_move <| g_no rfl rfl rfl rfl rfl rfl <| g_no rfl rfl rfl rfl rfl rfl <| g_no rfl rfl rfl rfl rfl rfl ?_
            refine g_v rfl (r_pick0 rfl rfl) <| g_v rfl r_assign <| g_nil <| d_then ?_
            refine c_flat [(0, .bool false)] ⟨rfl, trivial⟩ (fun u => ?_)
            refine c_ret ?_
            replace hm := Option.some.inj hm
            subst hm
            refine d_retC () Try.results9 ?_ trivial (fun W h => ok_pre (H1 := [_, _, _]) (R1 := [_, _, _]) h (fun W hφ => (q2 _ (q18 _ (q39 _ (q43 _ (q59 _ (q80 _ (q128 _ hφ))))))))) (.inr rfl)
            refine res_tmp <| res_nil ?_
            exact rfl
          ·
           replace hm := ite_f hm (of_decide_eq_false h137)
           refine g_no rfl rfl rfl rfl rfl h137 <| g_no rfl rfl rfl rfl rfl h137 <| g_no rfl rfl rfl rfl rfl h137 <| g_no rfl rfl rfl rfl rfl h137 <| g_v rfl (r_pick0 rfl h137) <| g_v rfl r_move <| g_no rfl rfl rfl rfl rfl rfl <| g_no rfl rfl rfl rfl rfl rfl <| g_no rfl rfl rfl rfl rfl rfl <| g_no rfl rfl rfl rfl rfl rfl ?_
           refine g_no rfl rfl rfl rfl rfl rfl <| g_no rfl rfl rfl rfl rfl rfl <| g_v rfl (r_pick0 rfl rfl) <| g_v rfl r_move <| g_no rfl rfl rfl rfl rfl rfl <| g_no rfl rfl rfl rfl rfl rfl <| g_no rfl rfl rfl rfl rfl rfl <| g_v rfl (r_pick0 rfl rfl) <| g_v rfl r_assign <| g_nil ?_
           refine d_then ?_
           refine c_flat [(0, .bool false)] ⟨rfl, trivial⟩ (fun u => ?_)
           refine c_ret ?_
           replace hm := Option.some.inj hm
           subst hm
           refine d_retC () Try.results9 ?_ trivial (fun W h => ok_pre (H1 := [_, _, _]) (R1 := [_, _, _]) h (fun W hφ => (q2 _ (q18 _ (q39 _ (q43 _ (q59 _ (q80 _ (q128 _ hφ))))))))) (.inr rfl)
           refine res_tmp <| res_nil ?_
           exact rfl
         ·
          replace hm := ite_f hm (of_decide_eq_false h136)
          refine g_no rfl rfl rfl rfl rfl h136 <| g_no rfl rfl rfl rfl rfl h136 <| g_v rfl (r_pick0 rfl h136) <| g_v rfl r_move <| g_no rfl rfl rfl rfl rfl rfl <| g_no rfl rfl rfl rfl rfl rfl <| g_no rfl rfl rfl rfl rfl rfl <| g_no rfl rfl rfl rfl rfl rfl <| g_no rfl rfl rfl rfl rfl rfl <| g_v rfl (r_pick0 rfl rfl) ?_
          refine g_v rfl r_move <| g_no rfl rfl rfl rfl rfl rfl <| g_no rfl rfl rfl rfl rfl rfl <| g_no rfl rfl rfl rfl rfl rfl <| g_no rfl rfl rfl rfl rfl rfl <| g_no rfl rfl rfl rfl rfl rfl <| g_no rfl rfl rfl rfl rfl rfl <| g_v rfl (r_pick0 rfl rfl) <| g_v rfl r_move <| g_no rfl rfl rfl rfl rfl rfl ?_
          refine g_no rfl rfl rfl rfl rfl rfl <| g_no rfl rfl rfl rfl rfl rfl <| g_v rfl (r_pick0 rfl rfl) <| g_v rfl r_assign <| g_nil <| d_then ?_
          refine c_flat [(0, .bool false)] ⟨rfl, trivial⟩ (fun u => ?_)
          refine c_ret ?_
          replace hm := Option.some.inj hm
          subst hm
          refine d_retC () Try.results9 ?_ trivial (fun W h => ok_pre (H1 := [_, _, _]) (R1 := [_, _, _]) h (fun W hφ => (q2 _ (q18 _ (q39 _ (q43 _ (q59 _ (q80 _ (q128 _ hφ))))))))) (.inr rfl)
          refine res_tmp <| res_nil ?_
          exact rfl
        ·
         replace hm := ite_f hm (of_decide_eq_false h135)
         refine g_no rfl rfl rfl rfl rfl h135 <| g_no rfl rfl rfl rfl rfl h135 <| g_v rfl (r_pick0 rfl h135) <| g_v rfl r_move <| g_no rfl rfl rfl rfl rfl rfl <| g_no rfl rfl rfl rfl rfl rfl <| g_no rfl rfl rfl rfl rfl rfl <| g_v rfl (r_pick0 rfl rfl) <| g_v rfl r_move <| g_no rfl rfl rfl rfl rfl rfl ?_
         refine g_no rfl rfl rfl rfl rfl rfl <| g_no rfl rfl rfl rfl rfl rfl <| g_no rfl rfl rfl rfl rfl rfl <| g_no rfl rfl rfl rfl rfl rfl <| g_v rfl (r_pick0 rfl rfl) <| g_v rfl r_move <| g_no rfl rfl rfl rfl rfl rfl <| g_no rfl rfl rfl rfl rfl rfl <| g_no rfl rfl rfl rfl rfl rfl <| g_no rfl rfl rfl rfl rfl rfl ?_
         refine g_no rfl rfl rfl rfl rfl rfl <| g_no rfl rfl rfl rfl rfl rfl <| g_v rfl (r_pick0 rfl rfl) <| g_v rfl r_move <| g_no rfl rfl rfl rfl rfl rfl <| g_no rfl rfl rfl rfl rfl rfl <| g_no rfl rfl rfl rfl rfl rfl <| g_v rfl (r_pick0 rfl rfl) <| g_v rfl r_assign <| g_nil ?_
         refine d_then ?_
         refine c_flat [(0, .bool false)] ⟨rfl, trivial⟩ (fun u => ?_)
         refine c_ret ?_
         replace hm := Option.some.inj hm
         subst hm
         refine d_retC () Try.results9 ?_ trivial (fun W h => ok_pre (H1 := [_, _, _]) (R1 := [_, _, _]) h (fun W hφ => (q2 _ (q18 _ (q39 _ (q43 _ (q59 _ (q80 _ (q128 _ hφ))))))))) (.inr rfl)
         refine res_tmp <| res_nil ?_
         exact rfl
       ·
        replace hm := ite_f hm (of_decide_eq_false h134)
        refine g_no rfl rfl rfl rfl rfl h134 <| g_no rfl rfl rfl rfl rfl h134 <| g_v rfl (r_pick0 rfl h134) <| g_v rfl r_move <| g_no rfl rfl rfl rfl rfl rfl <| g_no rfl rfl rfl rfl rfl rfl <| g_no rfl rfl rfl rfl rfl rfl <| g_v rfl (r_pick0 rfl rfl) <| g_v rfl r_move <| g_no rfl rfl rfl rfl rfl rfl ?_
        refine g_no rfl rfl rfl rfl rfl rfl <| g_no rfl rfl rfl rfl rfl rfl <| g_v rfl (r_pick0 rfl rfl) <| g_v rfl r_move <| g_no rfl rfl rfl rfl rfl rfl <| g_no rfl rfl rfl rfl rfl rfl <| g_no rfl rfl rfl rfl rfl rfl <| g_no rfl rfl rfl rfl rfl rfl <| g_no rfl rfl rfl rfl rfl rfl <| g_v rfl (r_pick0 rfl rfl) ?_
        refine g_v rfl r_move <| g_no rfl rfl rfl rfl rfl rfl <| g_no rfl rfl rfl rfl rfl rfl <| g_no rfl rfl rfl rfl rfl rfl <| g_no rfl rfl rfl rfl rfl rfl <| g_no rfl rfl rfl rfl rfl rfl <| g_no rfl rfl rfl rfl rfl rfl <| g_v rfl (r_pick0 rfl rfl) <| g_v rfl r_move <| g_no rfl rfl rfl rfl rfl rfl ?_
        refine g_no rfl rfl rfl rfl rfl rfl <| g_no rfl rfl rfl rfl rfl rfl <| g_v rfl (r_pick0 rfl rfl) <| g_v rfl r_assign <| g_nil <| d_then ?_
        refine c_flat [(0, .bool false)] ⟨rfl, trivial⟩ (fun u => ?_)
        refine c_ret ?_
        replace hm := Option.some.inj hm
        subst hm
        refine d_retC () Try.results9 ?_ trivial (fun W h => ok_pre (H1 := [_, _, _]) (R1 := [_, _, _]) h (fun W hφ => (q2 _ (q18 _ (q39 _ (q43 _ (q59 _ (q80 _ (q128 _ hφ))))))))) (.inr rfl)
        refine res_tmp <| res_nil ?_
        exact rfl
      ·
       replace hm := ite_f hm (of_decide_eq_false h133)
       refine g_no rfl rfl rfl rfl rfl h133 <| g_no rfl rfl rfl rfl rfl h133 <| g_v rfl (r_pick0 rfl h133) <| g_v rfl r_move <| g_no rfl rfl rfl rfl rfl rfl <| g_no rfl rfl rfl rfl rfl rfl <| g_no rfl rfl rfl rfl rfl rfl <| g_v rfl (r_pick0 rfl rfl) <| g_v rfl r_move <| g_no rfl rfl rfl rfl rfl rfl ?_
       refine g_no rfl rfl rfl rfl rfl rfl <| g_no rfl rfl rfl rfl rfl rfl <| g_v rfl (r_pick0 rfl rfl) <| g_v rfl r_move <| g_no rfl rfl rfl rfl rfl rfl <| g_no rfl rfl rfl rfl rfl rfl <| g_no rfl rfl rfl rfl rfl rfl <| g_v rfl (r_pick0 rfl rfl) <| g_v rfl r_move <| g_no rfl rfl rfl rfl rfl rfl ?_
       refine g_no rfl rfl rfl rfl rfl rfl <| g_no rfl rfl rfl rfl rfl rfl <| g_no rfl rfl rfl rfl rfl rfl <| g_no rfl rfl rfl rfl rfl rfl <| g_v rfl (r_pick0 rfl rfl) <| g_v rfl r_move <| g_no rfl rfl rfl rfl rfl rfl <| g_no rfl rfl rfl rfl rfl rfl <| g_no rfl rfl rfl rfl rfl rfl <| g_no rfl rfl rfl rfl rfl rfl ?_
       refine g_no rfl rfl rfl rfl rfl rfl <| g_no rfl rfl rfl rfl rfl rfl <| g_v rfl (r_pick0 rfl rfl) <| g_v rfl r_move <| g_no rfl rfl rfl rfl rfl rfl <| g_no rfl rfl rfl rfl rfl rfl <| g_no rfl rfl rfl rfl rfl rfl <| g_v rfl (r_pick0 rfl rfl) <| g_v rfl r_assign <| g_nil ?_
       refine d_then ?_
       refine c_flat [(0, .bool false)] ⟨rfl, trivial⟩ (fun u => ?_)
       refine c_ret ?_
       replace hm := Option.some.inj hm
       subst hm
       refine d_retC () Try.results9 ?_ trivial (fun W h => ok_pre (H1 := [_, _, _]) (R1 := [_, _, _]) h (fun W hφ => (q2 _ (q18 _ (q39 _ (q43 _ (q59 _ (q80 _ (q128 _ hφ))))))))) (.inr rfl)
       refine res_tmp <| res_nil ?_
       exact rfl
     ·
      replace hm := ite_f hm (of_decide_eq_false h132)
      refine g_no rfl rfl rfl rfl rfl h132 <| g_no rfl rfl rfl rfl rfl h132 <| g_v rfl (r_pick0 rfl h132) <| g_v rfl r_move <| g_no rfl rfl rfl rfl rfl rfl <| g_no rfl rfl rfl rfl rfl rfl <| g_no rfl rfl rfl rfl rfl rfl <| g_v rfl (r_pick0 rfl rfl) <| g_v rfl r_move <| g_no rfl rfl rfl rfl rfl rfl ?_
      refine g_no rfl rfl rfl rfl rfl rfl <| g_no rfl rfl rfl rfl rfl rfl <| g_v rfl (r_pick0 rfl rfl) <| g_v rfl r_move <| g_no rfl rfl rfl rfl rfl rfl <| g_no rfl rfl rfl rfl rfl rfl <| g_no rfl rfl rfl rfl rfl rfl <| g_v rfl (r_pick0 rfl rfl) <| g_v rfl r_move <| g_no rfl rfl rfl rfl rfl rfl ?_
      refine g_no rfl rfl rfl rfl rfl rfl <| g_no rfl rfl rfl rfl rfl rfl <| g_v rfl (r_pick0 rfl rfl) <| g_v rfl r_move <| g_no rfl rfl rfl rfl rfl rfl <| g_no rfl rfl rfl rfl rfl rfl <| g_no rfl rfl rfl rfl rfl rfl <| g_no rfl rfl rfl rfl rfl rfl <| g_no rfl rfl rfl rfl rfl rfl <| g_v rfl (r_pick0 rfl rfl) ?_
      refine g_v rfl r_move <| g_no rfl rfl rfl rfl rfl rfl <| g_no rfl rfl rfl rfl rfl rfl <| g_no rfl rfl rfl rfl rfl rfl <| g_no rfl rfl rfl rfl rfl rfl <| g_no rfl rfl rfl rfl rfl rfl <| g_no rfl rfl rfl rfl rfl rfl <| g_v rfl (r_pick0 rfl rfl) <| g_v rfl r_move <| g_no rfl rfl rfl rfl rfl rfl ?_
      refine g_no rfl rfl rfl rfl rfl rfl <| g_no rfl rfl rfl rfl rfl rfl <| g_v rfl (r_pick0 rfl rfl) <| g_v rfl r_assign <| g_nil <| d_then ?_
      refine c_flat [(0, .bool false)] ⟨rfl, trivial⟩ (fun u => ?_)
      refine c_ret ?_
      replace hm := Option.some.inj hm
      subst hm
      refine d_retC () Try.results9 ?_ trivial (fun W h => ok_pre (H1 := [_, _, _]) (R1 := [_, _, _]) h (fun W hφ => (q2 _ (q18 _ (q39 _ (q43 _ (q59 _ (q80 _ (q128 _ hφ))))))))) (.inr rfl)
      refine res_tmp <| res_nil ?_
      exact rfl
    ·
     replace hm := ite_f hm (of_decide_eq_false h131)
     refine g_no rfl rfl rfl rfl rfl h131 <| g_no rfl rfl rfl rfl rfl h131 <| g_no rfl rfl rfl rfl rfl h131 <| g_v rfl (r_pick0 rfl h131) <| g_v rfl r_move <| g_no rfl rfl rfl rfl rfl rfl <| g_no rfl rfl rfl rfl rfl rfl <| g_no rfl rfl rfl rfl rfl rfl <| g_v rfl (r_pick0 rfl rfl) <| g_v rfl r_move ?_
     refine g_no rfl rfl rfl rfl rfl rfl <| g_no rfl rfl rfl rfl rfl rfl <| g_no rfl rfl rfl rfl rfl rfl <| g_v rfl (r_pick0 rfl rfl) <| g_v rfl r_move <| g_no rfl rfl rfl rfl rfl rfl <| g_no rfl rfl rfl rfl rfl rfl <| g_no rfl rfl rfl rfl rfl rfl <| g_v rfl (r_pick0 rfl rfl) <| g_v rfl r_move ?_
     refine g_no rfl rfl rfl rfl rfl rfl <| g_no rfl rfl rfl rfl rfl rfl <| g_no rfl rfl rfl rfl rfl rfl <| g_v rfl (r_pick0 rfl rfl) <| g_v rfl r_move <| g_no rfl rfl rfl rfl rfl rfl <| g_no rfl rfl rfl rfl rfl rfl <| g_no rfl rfl rfl rfl rfl rfl <| g_v rfl (r_pick0 rfl rfl) <| g_v rfl r_move ?_
     refine g_no rfl rfl rfl rfl rfl rfl <| g_no rfl rfl rfl rfl rfl rfl <| g_no rfl rfl rfl rfl rfl rfl <| g_no rfl rfl rfl rfl rfl rfl <| g_no rfl rfl rfl rfl rfl rfl <| g_v rfl (r_pick0 rfl rfl) <| g_v rfl r_move <| g_no rfl rfl rfl rfl rfl rfl <| g_no rfl rfl rfl rfl rfl rfl <| g_no rfl rfl rfl rfl rfl rfl ?_
     refine g_no rfl rfl rfl rfl rfl rfl <| g_no rfl rfl rfl rfl rfl rfl <| g_no rfl rfl rfl rfl rfl rfl <| g_v rfl (r_pick0 rfl rfl) <| g_v rfl r_move <| g_no rfl rfl rfl rfl rfl rfl <| g_no rfl rfl rfl rfl rfl rfl <| g_no rfl rfl rfl rfl rfl rfl <| g_v rfl (r_pick0 rfl rfl) <| g_v rfl r_assign ?_
     refine g_nil <| d_then ?_
     refine c_flat [(0, .bool false)] ⟨rfl, trivial⟩ (fun u => ?_)
     refine c_ret ?_
     replace hm := Option.some.inj hm
     subst hm
     refine d_retC () Try.results9 ?_ trivial (fun W h => ok_pre (H1 := [_, _, _]) (R1 := [_, _, _]) h (fun W hφ => (q2 _ (q18 _ (q39 _ (q43 _ (q59 _ (q80 _ (q128 _ hφ))))))))) (.inr rfl)
     refine res_tmp <| res_nil ?_
     exact rfl
  ·
   replace hm := ite_t hm (of_decide_eq_true h95)
   refine g_no rfl rfl rfl rfl rfl h95 <| g_no rfl rfl rfl rfl rfl h95 <| g_no rfl rfl rfl rfl rfl h95 <| g_no rfl rfl rfl rfl rfl h95 <| g_v rfl (r_pick1 rfl h95) <| g_nil <| d_then ?_
   refine c_flat [(1, .pointer (some ⟨g41, 0, none⟩)), (3, .pointer (some ⟨g82, 0, none⟩)), (37, .bool true)] ⟨rfl, rfl, rfl, trivial⟩ (fun u => ?_)
   refine c_cond1 rfl rfl <| c_seq <| c_region <| g_v rfl r_assign <| g_nil <| d_then <| c_ret <| d_ret_then ?_
   replace hm := Option.some.inj hm
   subst hm
   refine d_retC () Try.results9 ?_ trivial (fun W h => ok_pre (H1 := [_, _]) (R1 := [_, _]) h (fun W hφ => (q2 _ (q18 _ (q39 _ (q43 _ (q59 _ (q80 _ hφ)))))))) (.inr rfl)
   refine res_tmp <| res_nil ?_
   exact rfl
 ·
  replace hm := ite_t hm (of_decide_eq_true h83)
  refine g_no rfl rfl rfl rfl rfl h83 <| g_no rfl rfl rfl rfl rfl h83 <| g_no rfl rfl rfl rfl rfl h83 <| g_no rfl rfl rfl rfl rfl h83 <| g_v rfl (r_pick1 rfl h83) <| g_v rfl r_move <| g_no rfl rfl rfl rfl rfl rfl <| g_no rfl rfl rfl rfl rfl rfl <| g_no rfl rfl rfl rfl rfl rfl <| g_no rfl rfl rfl rfl rfl rfl ?_
  refine g_no rfl rfl rfl rfl rfl rfl <| g_v rfl (r_pick1 rfl rfl) <| g_nil <| d_then <| c_cond1 rfl rfl <| c_seq <| c_region <| g_v rfl r_assign <| g_nil <| d_then ?_
  refine c_ret <| d_ret_then ?_
  replace hm := Option.some.inj hm
  subst hm
  refine d_retC () Try.results9 ?_ trivial (fun W h => ok_pre (H1 := [_, _]) (R1 := [_, _]) h (fun W hφ => (q2 _ (q18 _ (q39 _ (q43 _ (q59 _ (q80 _ hφ)))))))) (.inr rfl)
  refine res_tmp <| res_nil ?_
  exact rfl
noncomputable def m_law12_small_j3 (p0 : GNote) (l96 : List GEntry) (l102 : List Int) (s109 : ByteArray) : Option GNote :=
  some (⟨p0.fKind, p0.fFrom, p0.fTo, p0.fTerm, p0.fIndex, p0.fLogTerm, p0.fCommit, p0.fGood, l96, l102, s109⟩ : GNote)
noncomputable def m_law12_small_j2 (p0 : GNote) (l96 : List GEntry) (l102 : List Int) : Option GNote :=
  if 100 < (p0.fSnap.size : Int) then
    (scutHi p0.fSnap 100).bind fun s113 =>
    m_law12_small_j3 p0 l96 l102 s113
  else
    m_law12_small_j3 p0 l96 l102 p0.fSnap
noncomputable def m_law12_small_j1 (p0 : GNote) (l96 : List GEntry) : Option GNote :=
  if 20 < (p0.fVoters.length : Int) then
    (cutHi p0.fVoters 20).bind fun l116 =>
    m_law12_small_j2 p0 l96 l116
  else
    m_law12_small_j2 p0 l96 p0.fVoters
noncomputable def m_law12_small_j5 (l134 : List GEntry) (x159 : GEntry) (i137 : Int) (s166 : ByteArray) : Option (((List GEntry) × Int) ⊕ (List GEntry)) :=
  (app 32 l134 [(⟨x159.fTerm, x159.fKind, s166⟩ : GEntry)]).bind fun l168 =>
  some (.inl (l168, w64 (i137 + 1)))
noncomputable def m_law12_small_s4 (p0 : GNote) (l134 : List GEntry) (i137 : Int) : Option (((List GEntry) × Int) ⊕ (List GEntry)) :=
  if i137 < (p0.fEntries.length : Int) then
    if i137 < 20 then
      (at_ p0.fEntries i137).bind fun x159 =>
      if 100 < (x159.fData.size : Int) then
        (scutHi x159.fData 100).bind fun s173 =>
        m_law12_small_j5 l134 x159 i137 s173
      else
        m_law12_small_j5 l134 x159 i137 x159.fData
    else
      some (.inr l134)
  else
    some (.inr l134)
noncomputable def m_law12_small (p0 : GNote) : Option GNote :=
  (loop (fun s => m_law12_small_s4 p0 s.1 s.2) (([] : List GEntry), 0)).bind fun e => m_law12_small_j1 p0 e
theorem c_law12_small {w0 : World} {M : Nat → Prop} {H : List (Nat × Nat × Obj)} {R : List (Nat × Row)} {φ : World → Prop} (p0 : GNote) (Ap0_0 : Option Addr) (cp0_0 : Nat) (hcp0_0 : p0.fEntries.length ≤ cp0_0) (fp0_0 : ∀ W, (Sta.mk w0 M H R φ).ok W → Cl W Ap0_0 (p0.fEntries.flatMap GEntry.enc)) (Ap0_1 : Option Addr) (cp0_1 : Nat) (hcp0_1 : p0.fVoters.length ≤ cp0_1) (fp0_1 : ∀ W, φ W → Cl W Ap0_1 (p0.fVoters.flatMap (fun x : Int => [Value.int .i64 x]))) (r : GNote) (hm : m_law12_small p0 = some r) :
    Cn Try.prog 10 #[.agg #[.int .i64 p0.fKind, .int .i64 p0.fFrom, .int .i64 p0.fTo, .int .i64 p0.fTerm, .int .i64 p0.fIndex, .int .i64 p0.fLogTerm, .int .i64 p0.fCommit, .bool p0.fGood, .slice Ap0_0 p0.fEntries.length cp0_0, .slice Ap0_1 p0.fVoters.length cp0_1, .string p0.fSnap]] ⟨w0, M, H, R, φ⟩ (fun x : Option Addr × Nat × Option Addr × Nat => .agg #[.int .i64 r.fKind, .int .i64 r.fFrom, .int .i64 r.fTo, .int .i64 r.fTerm, .int .i64 r.fIndex, .int .i64 r.fLogTerm, .int .i64 r.fCommit, .bool r.fGood, .slice x.1 r.fEntries.length x.2.1, .slice x.2.2.1 r.fVoters.length x.2.2.2, .string r.fSnap]) (fun x => r.fEntries.length ≤ x.2.1 ∧ r.fVoters.length ≤ x.2.2.2) (fun x => ⟨w0, M, H, R, fun W => φ W ∧ Cl W x.1 (r.fEntries.flatMap GEntry.enc) ∧ Cl W x.2.2.1 (r.fVoters.flatMap (fun x : Int => [Value.int .i64 x]))⟩) := by
 unfold m_law12_small at hm
 refine cn_intro (fn := Try.f10) (N := 53) Try.func10 rfl Try.ntmps10 rfl <| c_seq <| c_region ?_
 refine g_e rfl (e_box 100010 rfl) (fun g1 _ => ?_)
 refine g_e rfl (e_alloc 100020 Try.zeroValue25) (fun g2 _ => ?_)
 refine g_nil <| d_then <| c_seq <| c_region <| g_v rfl r_assign <| g_nil <| d_then <| c_seq <| c_sta _ (fun W h => nilR h 13 36 3) ?_
 refine c_cut (ι := (List GEntry) × Option Addr × Nat) [1, 2, 3] (fun ⟨l96, A97, c98⟩ => [(3, .slice A97 l96.length c98)]) (fun ⟨l96, A97, c98⟩ => ⟨w0, M, (100020, g2, .cells #[.int .i64 0, .int .i64 0, .int .i64 0, .int .i64 0, .int .i64 0, .int .i64 0, .int .i64 0, .bool false, .slice none 0 0, .slice none 0 0, .string (⟨#[]⟩ : ByteArray)] 25 (0, 0)) :: (100010, g1, .cells #[.int .i64 p0.fKind, .int .i64 p0.fFrom, .int .i64 p0.fTo, .int .i64 p0.fTerm, .int .i64 p0.fIndex, .int .i64 p0.fLogTerm, .int .i64 p0.fCommit, .bool p0.fGood, .slice Ap0_0 p0.fEntries.length cp0_0, .slice Ap0_1 p0.fVoters.length cp0_1, .string p0.fSnap] 25 (0, 0)) :: H, (13, ⟨.slice A97 l96.length c98, 36, 3, l96.length, l96.flatMap GEntry.enc⟩) :: R, φ⟩) (fun ⟨l96, A97, c98⟩ => m_law12_small_j1 p0 l96 = some r ∧ l96.length ≤ c98) ?_ (fun ⟨l96, A97, c98⟩ u ⟨hm, hc98⟩ => ?_)
 ·
  refine c_seq <| c_region <| g_v rfl r_assign <| g_nil <| d_then <| c_block ?_
  replace hm := bnd hm
  obtain ⟨out4, hl4, hr4⟩ := hm
  obtain ⟨n156', hl4⟩ := loop_lp hl4
  refine c_loopU (ι := Nat × (List GEntry) × Int × Option Addr × Nat) [1, 2, 3, 4] (fun ⟨n156, l134, i137, A135, c136⟩ => [(3, .slice A135 l134.length c136), (4, .int .i64 i137)]) (fun ⟨n156, l134, i137, A135, c136⟩ => ⟨w0, M, (100020, g2, .cells #[.int .i64 0, .int .i64 0, .int .i64 0, .int .i64 0, .int .i64 0, .int .i64 0, .int .i64 0, .bool false, .slice none 0 0, .slice none 0 0, .string (⟨#[]⟩ : ByteArray)] 25 (0, 0)) :: (100010, g1, .cells #[.int .i64 p0.fKind, .int .i64 p0.fFrom, .int .i64 p0.fTo, .int .i64 p0.fTerm, .int .i64 p0.fIndex, .int .i64 p0.fLogTerm, .int .i64 p0.fCommit, .bool p0.fGood, .slice Ap0_0 p0.fEntries.length cp0_0, .slice Ap0_1 p0.fVoters.length cp0_1, .string p0.fSnap] 25 (0, 0)) :: H, (13, ⟨.slice A135 l134.length c136, 36, 3, l134.length, l134.flatMap GEntry.enc⟩) :: R, φ⟩) (fun ⟨n156, l134, i137, A135, c136⟩ => Lp (fun s => m_law12_small_s4 p0 s.1 s.2) n156 (l134, i137) out4 ∧ l134.length ≤ c136) (fun ⟨n156, l134, i137, A135, c136⟩ => n156) (n156', ([] : List GEntry), 0, none, 0) ⟨hl4, (Nat.le_refl 0)⟩ ⟨rfl, rfl, rfl, rfl, trivial⟩ (fun W h => h.phi (fun W hφ => hφ)) (fun ⟨n156, l134, i137, A135, c136⟩ u ⟨hlp, hc136⟩ => ?_)
  obtain ⟨o4, hm, hnx4⟩ := lp_step hlp
  clear hlp
  replace hm : m_law12_small_s4 p0 l134 i137 = some o4 := hm
  unfold m_law12_small_s4 at hm
  refine c_flat [(1, .pointer (some ⟨g1, 0, none⟩)), (2, .pointer (some ⟨g2, 0, none⟩)), (3, .slice A135 l134.length c136), (4, .int .i64 i137)] ⟨rfl, rfl, rfl, rfl, trivial⟩ (fun u => ?_)
  refine c_sta ⟨w0, M, (100020, g2, .cells #[.int .i64 0, .int .i64 0, .int .i64 0, .int .i64 0, .int .i64 0, .int .i64 0, .int .i64 0, .bool false, .slice none 0 0, .slice none 0 0, .string (⟨#[]⟩ : ByteArray)] 25 (0, 0)) :: (100010, g1, .cells #[.int .i64 p0.fKind, .int .i64 p0.fFrom, .int .i64 p0.fTo, .int .i64 p0.fTerm, .int .i64 p0.fIndex, .int .i64 p0.fLogTerm, .int .i64 p0.fCommit, .bool p0.fGood, .slice Ap0_0 p0.fEntries.length cp0_0, .slice Ap0_1 p0.fVoters.length cp0_1, .string p0.fSnap] 25 (0, 0)) :: H, (13, ⟨.slice A135 l134.length c136, 36, 3, l134.length, l134.flatMap GEntry.enc⟩) :: R, φ⟩ (fun _ h => h) <| c_seq <| c_seq <| c_region <| g_v rfl r_move <| g_v rfl (r_field (n := 8) Try.underlying25 rfl Try.sizeOf22 rfl rfl) <| g_v rfl (r_load (tag := 100010) rfl rfl rfl Try.isAgg22) <| g_v rfl (r_lenL Try.underlying22 rfl) <| g_v rfl (r_lss rfl rfl) <| g_v rfl r_move ?_
  refine g_if rfl rfl rfl rfl rfl (fun h157 => ?_) (fun h157 => ?_)
  ·
   replace hm := ite_t hm (of_decide_eq_true h157)
   refine g_v rfl r_move <| g_do rfl rfl rfl rfl rfl h157 <| g_v rfl (r_lss rfl rfl) <| g_v rfl (r_pick1 rfl h157) <| g_nil <| d_then ?_
   refine c_flat [(1, .pointer (some ⟨g1, 0, none⟩)), (2, .pointer (some ⟨g2, 0, none⟩)), (3, .slice A135 l134.length c136), (4, .int .i64 i137), (14, .bool (decide (i137 < 20)))] ⟨rfl, rfl, rfl, rfl, rfl, trivial⟩ (fun u => ?_)
   refine c_cond rfl (fun h158 => ?_) (fun h158 => ?_)
   ·
    replace hm := ite_t hm (of_decide_eq_true h158)
    refine c_skip <| d_then <| c_seq <| c_block <| c_seq <| c_region <| g_v rfl (r_field (n := 8) Try.underlying25 rfl Try.sizeOf22 rfl rfl) <| g_v rfl (r_load (tag := 100010) rfl rfl rfl Try.isAgg22) <| g_v rfl r_move ?_
    replace hm := bnd hm
    obtain ⟨x159, hx159, hm⟩ := hm
    refine g_know _ (fun W hS => cl_at (p := (Sta.mk w0 M H R φ).ok) (sz := 3) (fun _ => rfl) (by decide) (ok_pre (H1 := [_, _]) (R1 := [_]) hS (fun W h => h)) fp0_0 hx159) ?_
    rintro ⟨ad160, hA162, f161⟩
    refine g_v rfl (r_ix Try.underlying22 Try.sizeOf36 rfl hA162 rfl hx159) <| g_v rfl (r_ldA rfl Try.isAgg36 Try.sizeOf36 (fun W hS => (f161 W (ok_pre (H1 := [_, _]) (R1 := [_]) hS (fun W h => h))).take 3) rfl) ?_
    refine g_e rfl (e_alloc 100050 Try.zeroValue36) (fun g163 _ => ?_)
    refine g_storeL (tag := 100050) rfl rfl rfl rfl Try.sizeOf36 rfl rfl <| g_nil <| d_then <| c_seq ?_
    refine c_cut (ι := ByteArray) [1, 2, 3, 4, 5] (fun s166 => []) (fun s166 => ⟨w0, M, (100050, g163, .cells #[.int .i64 x159.fTerm, .int .i64 x159.fKind, .string s166] 36 (0, 0)) :: (100020, g2, .cells #[.int .i64 0, .int .i64 0, .int .i64 0, .int .i64 0, .int .i64 0, .int .i64 0, .int .i64 0, .bool false, .slice none 0 0, .slice none 0 0, .string (⟨#[]⟩ : ByteArray)] 25 (0, 0)) :: (100010, g1, .cells #[.int .i64 p0.fKind, .int .i64 p0.fFrom, .int .i64 p0.fTo, .int .i64 p0.fTerm, .int .i64 p0.fIndex, .int .i64 p0.fLogTerm, .int .i64 p0.fCommit, .bool p0.fGood, .slice Ap0_0 p0.fEntries.length cp0_0, .slice Ap0_1 p0.fVoters.length cp0_1, .string p0.fSnap] 25 (0, 0)) :: H, (13, ⟨.slice A135 l134.length c136, 36, 3, l134.length, l134.flatMap GEntry.enc⟩) :: R, φ⟩) (fun s166 => m_law12_small_j5 l134 x159 i137 s166 = some o4) ?_ (fun s166 u hm => ?_)
    ·
     refine c_seq <| c_region <| g_v rfl (r_field (n := 2) Try.underlying36 rfl Try.sizeOf9 rfl rfl) <| g_v rfl (r_load (tag := 100050) rfl rfl rfl Try.isAgg9) <| g_v rfl (r_len Try.underlying9 rfl) <| g_v rfl (r_gtr rfl rfl) <| g_nil <| d_then ?_
     refine c_flat [(1, .pointer (some ⟨g1, 0, none⟩)), (2, .pointer (some ⟨g2, 0, none⟩)), (3, .slice A135 l134.length c136), (4, .int .i64 i137), (5, .pointer (some ⟨g163, 0, none⟩)), (25, .bool (decide (100 < (x159.fData.size : Int))))] ⟨rfl, rfl, rfl, rfl, rfl, rfl, trivial⟩ (fun u => ?_)
     refine c_sta ⟨w0, M, (100050, g163, .cells #[.int .i64 x159.fTerm, .int .i64 x159.fKind, .string x159.fData] 36 (0, 0)) :: (100020, g2, .cells #[.int .i64 0, .int .i64 0, .int .i64 0, .int .i64 0, .int .i64 0, .int .i64 0, .int .i64 0, .bool false, .slice none 0 0, .slice none 0 0, .string (⟨#[]⟩ : ByteArray)] 25 (0, 0)) :: (100010, g1, .cells #[.int .i64 p0.fKind, .int .i64 p0.fFrom, .int .i64 p0.fTo, .int .i64 p0.fTerm, .int .i64 p0.fIndex, .int .i64 p0.fLogTerm, .int .i64 p0.fCommit, .bool p0.fGood, .slice Ap0_0 p0.fEntries.length cp0_0, .slice Ap0_1 p0.fVoters.length cp0_1, .string p0.fSnap] 25 (0, 0)) :: H, (13, ⟨.slice A135 l134.length c136, 36, 3, l134.length, l134.flatMap GEntry.enc⟩) :: R, φ⟩ (fun _ h => h) ?_
     refine c_cond rfl (fun h172 => ?_) (fun h172 => ?_)
     ·
      replace hm := ite_t hm (of_decide_eq_true h172)
      refine c_region <| g_v rfl (r_field (n := 2) Try.underlying36 rfl Try.sizeOf9 rfl rfl) <| g_v rfl (r_load (tag := 100050) rfl rfl rfl Try.isAgg9) ?_
      replace hm := bnd hm
      obtain ⟨s173, hs173, hm⟩ := hm
      refine g_v rfl (r_scutHi Try.underlying9 rfl rfl hs173) <| g_v rfl (r_field (n := 2) Try.underlying36 rfl Try.sizeOf9 rfl rfl) <| g_storeL (tag := 100050) rfl rfl rfl rfl Try.sizeOf9 rfl rfl <| g_nil ?_
      exact d_round s173 hm Nat.zero_lt_one ⟨rfl, rfl, rfl, rfl, rfl, trivial⟩ (fun W h => h.phi (fun W hφ => hφ))
     ·
      replace hm := ite_f hm (of_decide_eq_false h172)
      refine c_skip ?_
      exact d_round x159.fData hm Nat.zero_lt_one ⟨rfl, rfl, rfl, rfl, rfl, trivial⟩ (fun W h => h.phi (fun W hφ => hφ))
    ·
     unfold m_law12_small_j5 at hm
     refine d_flat [(1, .pointer (some ⟨g1, 0, none⟩)), (2, .pointer (some ⟨g2, 0, none⟩)), (3, .slice A135 l134.length c136), (4, .int .i64 i137), (5, .pointer (some ⟨g163, 0, none⟩))] ⟨rfl, rfl, rfl, rfl, rfl, trivial⟩ (fun u => ?_)
     refine d_sta ⟨w0, M, (100050, g163, .cells #[.int .i64 x159.fTerm, .int .i64 x159.fKind, .string s166] 36 (0, 0)) :: (100020, g2, .cells #[.int .i64 0, .int .i64 0, .int .i64 0, .int .i64 0, .int .i64 0, .int .i64 0, .int .i64 0, .bool false, .slice none 0 0, .slice none 0 0, .string (⟨#[]⟩ : ByteArray)] 25 (0, 0)) :: (100010, g1, .cells #[.int .i64 p0.fKind, .int .i64 p0.fFrom, .int .i64 p0.fTo, .int .i64 p0.fTerm, .int .i64 p0.fIndex, .int .i64 p0.fLogTerm, .int .i64 p0.fCommit, .bool p0.fGood, .slice Ap0_0 p0.fEntries.length cp0_0, .slice Ap0_1 p0.fVoters.length cp0_1, .string p0.fSnap] 25 (0, 0)) :: H, (13, ⟨.slice A135 l134.length c136, 36, 3, l134.length, l134.flatMap GEntry.enc⟩) :: R, φ⟩ (fun _ h => h) <| d_then <| c_region <| g_v rfl r_move <| g_v rfl (r_loadA (tag := 100050) rfl rfl Try.isAgg36 Try.sizeOf36 rfl rfl) ?_
     refine g_e rfl (e_lit (tag := 100320) (l := [(⟨x159.fTerm, x159.fKind, s166⟩ : GEntry)]) (enc := GEntry.enc) (sz := 3) rfl Try.underlying22 (lit36_13 _ _ _) rfl rfl (fun _ => rfl)) (fun g167 _ => ?_)
     replace hm := bnd hm
     obtain ⟨l168, hl168, hm⟩ := hm
     refine g_e rfl (e_appR (enc := GEntry.enc) (l := l134) (l1 := [(⟨x159.fTerm, x159.fKind, s166⟩ : GEntry)]) (l2 := l168) (tag := 13) Try.underlying22 inf36_7 rfl (by decide) (by decide) (fun _ => rfl) (fun _ => rfl) rfl hc136 rfl rfl (fun W hS => rowCl (tag := 100320) rfl W hS) hl168) (fun ⟨A169, c170⟩ hc170 => ?_)
     refine g_v rfl r_assign <| g_nil <| d_normal_block <| d_then <| c_region <| g_v rfl r_move <| g_v rfl (r_add rfl rfl rfl) <| g_v rfl r_assign <| g_nil ?_
     obtain ⟨n171, hn171, hlp⟩ := nx_inl hm hnx4
     exact d_round (n171, l168, w64 (i137 + 1), A169, c170) ⟨hlp, hc170⟩ hn171 ⟨rfl, rfl, rfl, rfl, trivial⟩ (fun W h => ((h.dropR (t := 100320) rfl).dropH (t := 100050) rfl).phi (fun W hφ => hφ))
   ·
    replace hm := ite_f hm (of_decide_eq_false h158)
    refine c_exit <| d_exit_then <| d_exit_then <| d_exit_block ?_
    replace hm := nx_out (C := (fun e : (List GEntry) => m_law12_small_j1 p0 e = some r)) hm hnx4 hr4
    exact d_round (l134, A135, c136) ⟨hm, hc136⟩ Nat.zero_lt_one ⟨rfl, rfl, rfl, trivial⟩ (fun W h => h.phi (fun W hφ => hφ))
  ·
   replace hm := ite_f hm (of_decide_eq_false h157)
   refine g_no rfl rfl rfl rfl rfl h157 <| g_v rfl (r_pick0 rfl h157) <| g_nil <| d_then <| c_cond0 rfl rfl <| c_exit <| d_exit_then <| d_exit_then <| d_exit_block ?_
   replace hm := nx_out (C := (fun e : (List GEntry) => m_law12_small_j1 p0 e = some r)) hm hnx4 hr4
   exact d_round (l134, A135, c136) ⟨hm, hc136⟩ Nat.zero_lt_one ⟨rfl, rfl, rfl, trivial⟩ (fun W h => h.phi (fun W hφ => hφ))
 ·
  unfold m_law12_small_j1 at hm
  refine d_flat [(1, .pointer (some ⟨g1, 0, none⟩)), (2, .pointer (some ⟨g2, 0, none⟩)), (3, .slice A97 l96.length c98)] ⟨rfl, rfl, rfl, trivial⟩ (fun u => ?_)
  refine d_sta ⟨w0, M, (100020, g2, .cells #[.int .i64 0, .int .i64 0, .int .i64 0, .int .i64 0, .int .i64 0, .int .i64 0, .int .i64 0, .bool false, .slice none 0 0, .slice none 0 0, .string (⟨#[]⟩ : ByteArray)] 25 (0, 0)) :: (100010, g1, .cells #[.int .i64 p0.fKind, .int .i64 p0.fFrom, .int .i64 p0.fTo, .int .i64 p0.fTerm, .int .i64 p0.fIndex, .int .i64 p0.fLogTerm, .int .i64 p0.fCommit, .bool p0.fGood, .slice Ap0_0 p0.fEntries.length cp0_0, .slice Ap0_1 p0.fVoters.length cp0_1, .string p0.fSnap] 25 (0, 0)) :: H, (13, ⟨.slice A97 l96.length c98, 36, 3, l96.length, l96.flatMap GEntry.enc⟩) :: R, φ⟩ (fun _ h => h) <| d_then <| c_seq <| c_region <| g_v rfl r_move <| g_v rfl (r_field (n := 8) Try.underlying25 rfl Try.sizeOf22 rfl rfl) <| g_storeL (tag := 100010) rfl rfl rfl rfl Try.sizeOf22 rfl rfl <| g_nil <| d_then <| c_seq ?_
  refine c_cut (ι := (List Int) × Option Addr × Nat) [1, 2] (fun ⟨l102, A103, c104⟩ => []) (fun ⟨l102, A103, c104⟩ => ⟨w0, M, (100020, g2, .cells #[.int .i64 0, .int .i64 0, .int .i64 0, .int .i64 0, .int .i64 0, .int .i64 0, .int .i64 0, .bool false, .slice none 0 0, .slice none 0 0, .string (⟨#[]⟩ : ByteArray)] 25 (0, 0)) :: (100010, g1, .cells #[.int .i64 p0.fKind, .int .i64 p0.fFrom, .int .i64 p0.fTo, .int .i64 p0.fTerm, .int .i64 p0.fIndex, .int .i64 p0.fLogTerm, .int .i64 p0.fCommit, .bool p0.fGood, .slice A97 l96.length c98, .slice A103 l102.length c104, .string p0.fSnap] 25 (0, 0)) :: H, (13, ⟨.slice A97 l96.length c98, 36, 3, l96.length, l96.flatMap GEntry.enc⟩) :: R, fun W => φ W ∧ Cl W A103 (l102.flatMap (fun x : Int => [Value.int .i64 x]))⟩) (fun ⟨l102, A103, c104⟩ => m_law12_small_j2 p0 l96 l102 = some r ∧ l102.length ≤ c104) ?_ (fun ⟨l102, A103, c104⟩ u ⟨hm, hc104⟩ => ?_)
  ·
   refine c_seq <| c_region <| g_v rfl (r_field (n := 9) Try.underlying25 rfl Try.sizeOf23 rfl rfl) <| g_v rfl (r_load (tag := 100010) rfl rfl rfl Try.isAgg23) <| g_v rfl (r_lenL Try.underlying23 rfl) <| g_v rfl (r_gtr rfl rfl) <| g_nil <| d_then ?_
   refine c_cond rfl (fun h114 => ?_) (fun h114 => ?_)
   ·
    replace hm := ite_t hm (of_decide_eq_true h114)
    refine c_region <| g_v rfl (r_field (n := 9) Try.underlying25 rfl Try.sizeOf23 rfl rfl) <| g_v rfl (r_load (tag := 100010) rfl rfl rfl Try.isAgg23) ?_
    replace hm := bnd hm
    obtain ⟨l116, hl116, hm⟩ := hm
    have f115 := fun (W : World) (h : φ W) => cl_cutHi (enc := (fun x : Int => [Value.int .i64 x])) (sz := 1) (fun _ => rfl) hl116 (fp0_1 W h)
    refine g_v rfl (r_lcutHi Try.underlying23 Try.sizeOf3 rfl hcp0_1 rfl hl116) <| g_v rfl (r_field (n := 9) Try.underlying25 rfl Try.sizeOf23 rfl rfl) <| g_storeL (tag := 100010) rfl rfl rfl rfl Try.sizeOf23 rfl rfl <| g_nil ?_
    exact d_round (l116, Ap0_1, cp0_1) ⟨hm, (cutHi_len hcp0_1 hl116)⟩ Nat.zero_lt_one ⟨rfl, rfl, trivial⟩ (fun W h => h.phi (fun W hφ => ⟨hφ, (fun W h => f115 W h) W hφ⟩))
   ·
    replace hm := ite_f hm (of_decide_eq_false h114)
    refine c_skip ?_
    exact d_round (p0.fVoters, Ap0_1, cp0_1) ⟨hm, hcp0_1⟩ Nat.zero_lt_one ⟨rfl, rfl, trivial⟩ (fun W h => h.phi (fun W hφ => ⟨hφ, (fun W h => fp0_1 W h) W hφ⟩))
  ·
   unfold m_law12_small_j2 at hm
   refine d_abs (fun φ106 q106' => ?_)
   have q106 : ∀ W, φ106 W → φ W := fun W h => (q106' W h).1
   have f105 := fun (W : World) (h : φ106 W) => (q106' W h).2
   refine d_flat [(1, .pointer (some ⟨g1, 0, none⟩)), (2, .pointer (some ⟨g2, 0, none⟩))] ⟨rfl, rfl, trivial⟩ (fun u => ?_)
   refine d_sta ⟨w0, M, (100020, g2, .cells #[.int .i64 0, .int .i64 0, .int .i64 0, .int .i64 0, .int .i64 0, .int .i64 0, .int .i64 0, .bool false, .slice none 0 0, .slice none 0 0, .string (⟨#[]⟩ : ByteArray)] 25 (0, 0)) :: (100010, g1, .cells #[.int .i64 p0.fKind, .int .i64 p0.fFrom, .int .i64 p0.fTo, .int .i64 p0.fTerm, .int .i64 p0.fIndex, .int .i64 p0.fLogTerm, .int .i64 p0.fCommit, .bool p0.fGood, .slice A97 l96.length c98, .slice A103 l102.length c104, .string p0.fSnap] 25 (0, 0)) :: H, (13, ⟨.slice A97 l96.length c98, 36, 3, l96.length, l96.flatMap GEntry.enc⟩) :: R, φ106⟩ (fun _ h => h) <| d_then <| c_seq ?_
   refine c_cut (ι := ByteArray) [1, 2] (fun s109 => []) (fun s109 => ⟨w0, M, (100020, g2, .cells #[.int .i64 0, .int .i64 0, .int .i64 0, .int .i64 0, .int .i64 0, .int .i64 0, .int .i64 0, .bool false, .slice none 0 0, .slice none 0 0, .string (⟨#[]⟩ : ByteArray)] 25 (0, 0)) :: (100010, g1, .cells #[.int .i64 p0.fKind, .int .i64 p0.fFrom, .int .i64 p0.fTo, .int .i64 p0.fTerm, .int .i64 p0.fIndex, .int .i64 p0.fLogTerm, .int .i64 p0.fCommit, .bool p0.fGood, .slice A97 l96.length c98, .slice A103 l102.length c104, .string s109] 25 (0, 0)) :: H, (13, ⟨.slice A97 l96.length c98, 36, 3, l96.length, l96.flatMap GEntry.enc⟩) :: R, φ106⟩) (fun s109 => m_law12_small_j3 p0 l96 l102 s109 = some r) ?_ (fun s109 u hm => ?_)
   ·
    refine c_seq <| c_region <| g_v rfl (r_field (n := 10) Try.underlying25 rfl Try.sizeOf9 rfl rfl) <| g_v rfl (r_load (tag := 100010) rfl rfl rfl Try.isAgg9) <| g_v rfl (r_len Try.underlying9 rfl) <| g_v rfl (r_gtr rfl rfl) <| g_nil <| d_then ?_
    refine c_cond rfl (fun h112 => ?_) (fun h112 => ?_)
    ·
     replace hm := ite_t hm (of_decide_eq_true h112)
     refine c_region <| g_v rfl (r_field (n := 10) Try.underlying25 rfl Try.sizeOf9 rfl rfl) <| g_v rfl (r_load (tag := 100010) rfl rfl rfl Try.isAgg9) ?_
     replace hm := bnd hm
     obtain ⟨s113, hs113, hm⟩ := hm
     refine g_v rfl (r_scutHi Try.underlying9 rfl rfl hs113) <| g_v rfl (r_field (n := 10) Try.underlying25 rfl Try.sizeOf9 rfl rfl) <| g_storeL (tag := 100010) rfl rfl rfl rfl Try.sizeOf9 rfl rfl <| g_nil ?_
     exact d_round s113 hm Nat.zero_lt_one ⟨rfl, rfl, trivial⟩ (fun W h => h.phi (fun W hφ => hφ))
    ·
     replace hm := ite_f hm (of_decide_eq_false h112)
     refine c_skip ?_
     exact d_round p0.fSnap hm Nat.zero_lt_one ⟨rfl, rfl, trivial⟩ (fun W h => h.phi (fun W hφ => hφ))
   ·
    unfold m_law12_small_j3 at hm
    refine d_flat [(1, .pointer (some ⟨g1, 0, none⟩)), (2, .pointer (some ⟨g2, 0, none⟩))] ⟨rfl, rfl, trivial⟩ (fun u => ?_)
    refine d_sta ⟨w0, M, (100020, g2, .cells #[.int .i64 0, .int .i64 0, .int .i64 0, .int .i64 0, .int .i64 0, .int .i64 0, .int .i64 0, .bool false, .slice none 0 0, .slice none 0 0, .string (⟨#[]⟩ : ByteArray)] 25 (0, 0)) :: (100010, g1, .cells #[.int .i64 p0.fKind, .int .i64 p0.fFrom, .int .i64 p0.fTo, .int .i64 p0.fTerm, .int .i64 p0.fIndex, .int .i64 p0.fLogTerm, .int .i64 p0.fCommit, .bool p0.fGood, .slice A97 l96.length c98, .slice A103 l102.length c104, .string s109] 25 (0, 0)) :: H, (13, ⟨.slice A97 l96.length c98, 36, 3, l96.length, l96.flatMap GEntry.enc⟩) :: R, φ106⟩ (fun _ h => h) <| d_then <| c_seq <| c_region <| g_v rfl (r_loadA (tag := 100010) rfl rfl Try.isAgg25 Try.sizeOf25 rfl rfl) <| g_storeL (tag := 100020) rfl rfl rfl rfl Try.sizeOf25 rfl rfl <| g_nil <| d_then <| c_ret ?_
    replace hm := Option.some.inj hm
    subst hm
    refine d_shut (tag := 13) rfl (fun φ110 q110' => ?_)
    have q110 : ∀ W, φ110 W → φ106 W := fun W h => (q110' W h).1
    have f111 := fun (W : World) (h : φ110 W) => (q110' W h).2
    refine d_retC (A97, c98, A103, c104) Try.results10 ?_ ⟨hc98, hc104⟩ (fun W h => ok_pre (H1 := [_, _]) (R1 := []) h (fun W hφ => ⟨(q106 _ (q110 _ hφ)), (fun W h => f111 W h) W hφ, (fun W h => f105 W (q110 _ h)) W hφ⟩)) (.inr rfl)
    refine res_agg (tag := 100020) rfl rfl Try.isAgg25 Try.sizeOf25 <| res_nil ?_
    exact rfl
noncomputable def m_ref11_List_j1 (p0 : ByteArray) (l107 : List Int) : Option ((List Int) × Bool) :=
  some (l107, decide (0 < (p0.size : Int)))
noncomputable def m_ref11_List_j3 (p0 : ByteArray) (i129 : Int) (l126 : List Int) : Option (((List Int) × Int) ⊕ ((List Int) ⊕ ((List Int) × Bool))) :=
  (sat_ p0 i129).bind fun b174 =>
  (app 8 l126 [w64 b174]).bind fun l176 =>
  some (.inl (l176, w64 (i129 + 1)))
noncomputable def m_ref11_List_s2 (p0 : ByteArray) (l126 : List Int) (i129 : Int) : Option (((List Int) × Int) ⊕ ((List Int) ⊕ ((List Int) × Bool))) :=
  if i129 < (p0.size : Int) then
    (sat_ p0 i129).bind fun b190 =>
    if 63 < b190 then
      some (.inr (.inr (([] : List Int), false)))
    else
      if 0 < i129 then
        (sat_ p0 i129).bind fun b193 =>
        (sat_ p0 (w64 (i129 - 1))).bind fun b194 =>
        if b193 ≤ b194 then
          some (.inr (.inr (([] : List Int), false)))
        else
          m_ref11_List_j3 p0 i129 l126
      else
        m_ref11_List_j3 p0 i129 l126
  else
    some (.inr (.inl l126))
noncomputable def m_ref11_List (p0 : ByteArray) : Option ((List Int) × Bool) :=
  (loop (fun s => m_ref11_List_s2 p0 s.1 s.2) (([] : List Int), 0)).bind fun e => Sum.elim (fun e => m_ref11_List_j1 p0 e) (fun x => some x) e
theorem c_ref11_List {w0 : World} {M : Nat → Prop} {H : List (Nat × Nat × Obj)} {R : List (Nat × Row)} {φ : World → Prop} (p0 : ByteArray) (r : (List Int) × Bool) (hm : m_ref11_List p0 = some r) :
    Cn Try.prog 55 #[.string p0] ⟨w0, M, H, R, φ⟩ (fun x : Option Addr × Nat => .tuple #[.slice x.1 r.1.length x.2, .bool r.2]) (fun x => r.1.length ≤ x.2) (fun x => ⟨w0, M, H, (2000, ⟨.slice x.1 r.1.length x.2, 3, 1, r.1.length, r.1.flatMap (fun x : Int => [Value.int .i64 x])⟩) :: R, φ⟩) := by
 unfold m_ref11_List at hm
 refine cn_intro (fn := Try.f55) (N := 41) Try.func55 rfl Try.ntmps55 rfl <| c_seq <| c_region <| g_v rfl r_assign <| g_v rfl r_assign <| g_nil <| d_then <| c_seq <| c_region <| g_v rfl r_assign ?_
 refine g_nil <| d_then <| c_seq <| c_seq <| c_region <| g_v rfl r_assign <| g_nil <| d_then <| c_sta _ (fun W h => nilR h 17 3 1) ?_
 refine c_cut (ι := (List Int) × Option Addr × Nat) [0, 4] (fun ⟨l107, A108, c109⟩ => [(4, .slice A108 l107.length c109)]) (fun ⟨l107, A108, c109⟩ => ⟨w0, M, H, (17, ⟨.slice A108 l107.length c109, 3, 1, l107.length, l107.flatMap (fun x : Int => [Value.int .i64 x])⟩) :: R, φ⟩) (fun ⟨l107, A108, c109⟩ => m_ref11_List_j1 p0 l107 = some r ∧ l107.length ≤ c109) ?_ (fun ⟨l107, A108, c109⟩ u ⟨hm, hc109⟩ => ?_)
 ·
  refine c_block ?_
  replace hm := bnd hm
  obtain ⟨out2, hl2, hr2⟩ := hm
  obtain ⟨n156', hl2⟩ := loop_lp hl2
  refine c_loopU (ι := Nat × (List Int) × Int × Option Addr × Nat) [0, 4, 5] (fun ⟨n156, l126, i129, A127, c128⟩ => [(4, .slice A127 l126.length c128), (5, .int .i64 i129)]) (fun ⟨n156, l126, i129, A127, c128⟩ => ⟨w0, M, H, (17, ⟨.slice A127 l126.length c128, 3, 1, l126.length, l126.flatMap (fun x : Int => [Value.int .i64 x])⟩) :: R, φ⟩) (fun ⟨n156, l126, i129, A127, c128⟩ => Lp (fun s => m_ref11_List_s2 p0 s.1 s.2) n156 (l126, i129) out2 ∧ l126.length ≤ c128) (fun ⟨n156, l126, i129, A127, c128⟩ => n156) (n156', ([] : List Int), 0, none, 0) ⟨hl2, (Nat.le_refl 0)⟩ ⟨rfl, rfl, rfl, trivial⟩ (fun W h => h.phi (fun W hφ => hφ)) (fun ⟨n156, l126, i129, A127, c128⟩ u ⟨hlp, hc128⟩ => ?_)
  obtain ⟨o2, hm, hnx2⟩ := lp_step hlp
  clear hlp
  replace hm : m_ref11_List_s2 p0 l126 i129 = some o2 := hm
  unfold m_ref11_List_s2 at hm
  refine c_flat [(0, .string p0), (4, .slice A127 l126.length c128), (5, .int .i64 i129)] ⟨rfl, rfl, rfl, trivial⟩ (fun u => ?_)
  refine c_sta ⟨w0, M, H, (17, ⟨.slice A127 l126.length c128, 3, 1, l126.length, l126.flatMap (fun x : Int => [Value.int .i64 x])⟩) :: R, φ⟩ (fun _ h => h) <| c_seq <| c_seq <| c_region <| g_v rfl r_move <| g_v rfl r_move <| g_v rfl (r_len Try.underlying9 rfl) <| g_v rfl (r_lss rfl rfl) <| g_nil <| d_then ?_
  refine c_cond rfl (fun h157 => ?_) (fun h157 => ?_)
  ·
   replace hm := ite_t hm (of_decide_eq_true h157)
   refine c_skip <| d_then <| c_seq <| c_block <| c_seq ?_
   refine c_cut (ι := Unit) [0, 4, 5] (fun _ => []) (fun _ => ⟨w0, M, H, (17, ⟨.slice A127 l126.length c128, 3, 1, l126.length, l126.flatMap (fun x : Int => [Value.int .i64 x])⟩) :: R, φ⟩) (fun _ => m_ref11_List_j3 p0 i129 l126 = some o2) ?_ (fun _ u hm => ?_)
   ·
    refine c_seq <| ga_start (n := 18) ⟨w0, M, H, (17, ⟨.slice A127 l126.length c128, 3, 1, l126.length, l126.flatMap (fun x : Int => [Value.int .i64 x])⟩) :: R, φ⟩ [] #[false, false, false, false, false, false, false, false, false, false, false, false, false, false, false, false, false, false] (fun W h => h.phi (fun W hφ => hφ)) mixed rfl rfl <| ga_v (i := 0) (bz 18 1) rfl (by kernel_rfl) (fun _ _ _ _ h => h) rfl (r_move) <| ga_r (i := 1) (bz 18 3) rfl (by kernel_rfl) (by decide) rfl (r_move) ?_
    replace hm := bnd hm
    obtain ⟨b190, hb190, hm⟩ := hm
    refine ga_r (i := 2) (bz 18 7) rfl (by kernel_rfl) (by decide) rfl (r_sat Try.underlying9 rfl rfl hb190) <| ga_r (i := 3) (bz 18 15) rfl (by kernel_rfl) (by decide) rfl (r_gtr rfl rfl) <| ga_r (i := 4) (bz 18 31) rfl (by kernel_rfl) (by decide) rfl (r_move) ?_
    refine ga_if (t := 16) rfl (fun h191 => ?_) (fun h191 => ?_)
    ·
     replace hm := ite_t hm (of_decide_eq_true h191)
     refine ga_no (i := 5) (bz 18 63) rfl (by kernel_rfl) (fun _ _ _ _ h => h) rfl rfl rfl rfl rfl h191 <| ga_no (i := 6) (bz 18 127) rfl (by kernel_rfl) (fun _ _ _ _ h => h) rfl rfl rfl rfl rfl h191 <| ga_no (i := 7) (bz 18 255) rfl (by kernel_rfl) (fun _ _ _ _ h => h) rfl rfl rfl rfl rfl h191 <| ga_nu (i := 8) (bz 18 511) rfl (by kernel_rfl) (fun _ _ _ _ h => h) rfl rfl rfl rfl rfl <| ga_nu (i := 9) (bz 18 1023) rfl (by kernel_rfl) (fun _ _ _ _ h => h) rfl rfl rfl rfl rfl <| ga_nu (i := 10) (bz 18 2047) rfl (by kernel_rfl) (fun _ _ _ _ h => h) rfl rfl rfl rfl rfl <| ga_nu (i := 11) (bz 18 4095) rfl (by kernel_rfl) (fun _ _ _ _ h => h) rfl rfl rfl rfl rfl <| ga_nu (i := 12) (bz 18 8191) rfl (by kernel_rfl) (fun _ _ _ _ h => h) rfl rfl rfl rfl rfl <| ga_nu (i := 13) (bz 18 16383) rfl (by kernel_rfl) (fun _ _ _ _ h => h) rfl rfl rfl rfl rfl <| ga_nu (i := 14) (bz 18 32767) rfl (by kernel_rfl) (fun _ _ _ _ h => h) rfl rfl rfl rfl rfl ?_
     refine ga_nu (i := 15) (bz 18 65535) rfl (by kernel_rfl) (fun _ _ _ _ h => h) rfl rfl rfl rfl rfl <| ga_no (i := 16) (bz 18 131071) rfl (by kernel_rfl) (fun _ _ _ _ h => h) rfl rfl rfl rfl rfl h191 <| ga_r (i := 17) (bz 18 262143) rfl (by kernel_rfl) (by decide) rfl (r_pick1 rfl h191) <| ga_done (by kernel_rfl) <| d_then ?_
     refine c_flat [(0, .string p0), (4, .slice A127 l126.length c128), (5, .int .i64 i129), (29, .bool true)] ⟨rfl, rfl, rfl, rfl, trivial⟩ (fun u => ?_)
     refine c_cond1 rfl rfl <| c_seq <| c_region <| g_v rfl r_assign <| g_v rfl r_assign <| g_nil <| d_then <| c_ret <| d_ret_then <| d_ret_then ?_
     refine d_ret_block <| d_ret_then <| d_ret_then <| d_ret_block <| d_ret_then <| d_ret_then ?_
     replace hm := nx_out (C := (fun e : (List Int) ⊕ ((List Int) × Bool) => Sum.elim (fun e => m_ref11_List_j1 p0 e) (fun x => some x) e = some r)) hm hnx2 hr2
     replace hm : some (([] : List Int), false) = some r := hm
     replace hm := Option.some.inj hm
     subst hm
     refine d_sta _ (fun W h => nilR h 26 3 1) <| d_sta _ (fun W h => ok_frontR (t := 26) (t' := 2000) h rfl) ?_
     refine d_retC (none, 0) Try.results55 ?_ (Nat.le_refl 0) (fun W h => (h.dropR (t := 17) rfl).phi (fun W hφ => hφ)) (.inr rfl)
     refine res_tmp <| res_tmp <| res_nil ?_
     exact rfl
    ·
     replace hm := ite_f hm (of_decide_eq_false h191)
     refine ga_rG (i := 5) (bz 18 63) rfl (by kernel_rfl) (by decide) rfl rfl rfl rfl rfl h191 (r_move) <| ga_rG (i := 6) (bz 18 127) rfl (by kernel_rfl) (by decide) rfl rfl rfl rfl rfl h191 (r_gtr rfl rfl) <| ga_rG (i := 7) (bz 18 255) rfl (by kernel_rfl) (by decide) rfl rfl rfl rfl rfl h191 (r_move) ?_
     refine ga_if (t := 19) rfl (fun h192 => ?_) (fun h192 => ?_)
     ·
      replace hm := ite_t hm (of_decide_eq_true h192)
      refine ga_do (i := 8) (bz 18 511) rfl (by kernel_rfl) (fun _ _ _ _ h => h) rfl rfl rfl rfl rfl h192 (r_move) <| ga_do (i := 9) (bz 18 1023) rfl (by kernel_rfl) (fun _ _ _ _ h => h) rfl rfl rfl rfl rfl h192 (r_move) ?_
      replace hm := bnd hm
      obtain ⟨b193, hb193, hm⟩ := hm
      refine ga_do (i := 10) (bz 18 2047) rfl (by kernel_rfl) (fun _ _ _ _ h => h) rfl rfl rfl rfl rfl h192 (r_sat Try.underlying9 rfl rfl hb193) <| ga_do (i := 11) (bz 18 4095) rfl (by kernel_rfl) (fun _ _ _ _ h => h) rfl rfl rfl rfl rfl h192 (r_move) <| ga_rG (i := 12) (bz 18 8191) rfl (by kernel_rfl) (by decide) rfl rfl rfl rfl rfl h192 (r_move) <| ga_rG (i := 13) (bz 18 16383) rfl (by kernel_rfl) (by decide) rfl rfl rfl rfl rfl h192 (r_sub rfl rfl rfl) ?_
      replace hm := bnd hm
      obtain ⟨b194, hb194, hm⟩ := hm
      refine ga_rG (i := 14) (bz 18 32767) rfl (by kernel_rfl) (by decide) rfl rfl rfl rfl rfl h192 (r_sat Try.underlying9 rfl rfl hb194) <| ga_rG (i := 15) (bz 18 65535) rfl (by kernel_rfl) (by decide) rfl rfl rfl rfl rfl h192 (r_leq rfl rfl) <| ga_rG (i := 16) (bz 18 131071) rfl (by kernel_rfl) (by decide) rfl rfl rfl rfl rfl h191 (r_pick1 rfl h192) <| ga_r (i := 17) (bz 18 262143) rfl (by kernel_rfl) (by decide) rfl (r_pick0 rfl h191) <| ga_done (by kernel_rfl) <| d_then ?_
      refine c_flat [(0, .string p0), (4, .slice A127 l126.length c128), (5, .int .i64 i129), (29, .bool (decide (b193 ≤ b194)))] ⟨rfl, rfl, rfl, rfl, trivial⟩ (fun u => ?_)
      refine c_cond rfl (fun h195 => ?_) (fun h195 => ?_)
      ·
       replace hm := ite_t hm (of_decide_eq_true h195)
       refine c_seq <| c_region <| g_v rfl r_assign <| g_v rfl r_assign <| g_nil <| d_then <| c_ret <| d_ret_then <| d_ret_then <| d_ret_block ?_
       refine d_ret_then <| d_ret_then <| d_ret_block <| d_ret_then <| d_ret_then ?_
       replace hm := nx_out (C := (fun e : (List Int) ⊕ ((List Int) × Bool) => Sum.elim (fun e => m_ref11_List_j1 p0 e) (fun x => some x) e = some r)) hm hnx2 hr2
       replace hm : some (([] : List Int), false) = some r := hm
       replace hm := Option.some.inj hm
       subst hm
       refine d_sta _ (fun W h => nilR h 27 3 1) <| d_sta _ (fun W h => ok_frontR (t := 27) (t' := 2000) h rfl) ?_
       refine d_retC (none, 0) Try.results55 ?_ (Nat.le_refl 0) (fun W h => (h.dropR (t := 17) rfl).phi (fun W hφ => hφ)) (.inr rfl)
       refine res_tmp <| res_tmp <| res_nil ?_
       exact rfl
      ·
       replace hm := ite_f hm (of_decide_eq_false h195)
       refine c_skip ?_
       exact d_round () hm Nat.zero_lt_one ⟨rfl, rfl, rfl, trivial⟩ (fun W h => h.phi (fun W hφ => hφ))
     ·
      replace hm := ite_f hm (of_decide_eq_false h192)
      refine ga_no (i := 8) (bz 18 511) rfl (by kernel_rfl) (fun _ _ _ _ h => h) rfl rfl rfl rfl rfl h192 <| ga_no (i := 9) (bz 18 1023) rfl (by kernel_rfl) (fun _ _ _ _ h => h) rfl rfl rfl rfl rfl h192 <| ga_no (i := 10) (bz 18 2047) rfl (by kernel_rfl) (fun _ _ _ _ h => h) rfl rfl rfl rfl rfl h192 <| ga_no (i := 11) (bz 18 4095) rfl (by kernel_rfl) (fun _ _ _ _ h => h) rfl rfl rfl rfl rfl h192 <| ga_no (i := 12) (bz 18 8191) rfl (by kernel_rfl) (fun _ _ _ _ h => h) rfl rfl rfl rfl rfl h192 <| ga_no (i := 13) (bz 18 16383) rfl (by kernel_rfl) (fun _ _ _ _ h => h) rfl rfl rfl rfl rfl h192 <| ga_no (i := 14) (bz 18 32767) rfl (by kernel_rfl) (fun _ _ _ _ h => h) rfl rfl rfl rfl rfl h192 <| ga_no (i := 15) (bz 18 65535) rfl (by kernel_rfl) (fun _ _ _ _ h => h) rfl rfl rfl rfl rfl h192 <| ga_rG (i := 16) (bz 18 131071) rfl (by kernel_rfl) (by decide) rfl rfl rfl rfl rfl h191 (r_pick0 rfl h192) <| ga_r (i := 17) (bz 18 262143) rfl (by kernel_rfl) (by decide) rfl (r_pick0 rfl h191) ?_
      refine ga_done (by kernel_rfl) <| d_then ?_
      refine c_flat [(0, .string p0), (4, .slice A127 l126.length c128), (5, .int .i64 i129), (29, .bool false)] ⟨rfl, rfl, rfl, rfl, trivial⟩ (fun u => ?_)
      refine c_cond0 rfl rfl <| c_skip ?_
      exact d_round () hm Nat.zero_lt_one ⟨rfl, rfl, rfl, trivial⟩ (fun W h => h.phi (fun W hφ => hφ))
   ·
    unfold m_ref11_List_j3 at hm
    refine d_flat [(0, .string p0), (4, .slice A127 l126.length c128), (5, .int .i64 i129)] ⟨rfl, rfl, rfl, trivial⟩ (fun u => ?_)
    refine d_then <| c_region <| g_v rfl r_move <| g_v rfl r_move <| g_v rfl r_move ?_
    replace hm := bnd hm
    obtain ⟨b174, hb174, hm⟩ := hm
    refine g_v rfl (r_sat Try.underlying9 rfl rfl hb174) <| g_v rfl (r_conv Try.underlying5 Try.underlying3 rfl rfl) ?_
    refine g_e rfl (e_lit (tag := 100350) (l := [w64 b174]) (enc := (fun x : Int => [Value.int .i64 x])) (sz := 1) rfl Try.underlying23 (lit3_0 _) rfl rfl (fun _ => rfl)) (fun g175 _ => ?_)
    replace hm := bnd hm
    obtain ⟨l176, hl176, hm⟩ := hm
    refine g_e rfl (e_appR (enc := (fun x : Int => [Value.int .i64 x])) (l := l126) (l1 := [w64 b174]) (l2 := l176) (tag := 17) Try.underlying23 inf3_10 rfl (by decide) (by decide) (fun _ => rfl) (fun _ => rfl) rfl hc128 rfl rfl (fun W hS => rowCl (tag := 100350) rfl W hS) hl176) (fun ⟨A177, c178⟩ hc178 => ?_)
    refine g_v rfl r_assign <| g_nil <| d_normal_block <| d_then <| c_region <| g_v rfl r_move <| g_v rfl (r_add rfl rfl rfl) <| g_v rfl r_assign <| g_nil ?_
    obtain ⟨n179, hn179, hlp⟩ := nx_inl hm hnx2
    exact d_round (n179, l176, w64 (i129 + 1), A177, c178) ⟨hlp, hc178⟩ hn179 ⟨rfl, rfl, rfl, trivial⟩ (fun W h => (h.dropR (t := 100350) rfl).phi (fun W hφ => hφ))
  ·
   replace hm := ite_f hm (of_decide_eq_false h157)
   refine c_exit <| d_exit_then <| d_exit_then <| d_exit_block ?_
   replace hm := nx_out (C := (fun e : (List Int) ⊕ ((List Int) × Bool) => Sum.elim (fun e => m_ref11_List_j1 p0 e) (fun x => some x) e = some r)) hm hnx2 hr2
   exact d_round (l126, A127, c128) ⟨hm, hc128⟩ Nat.zero_lt_one ⟨rfl, rfl, trivial⟩ (fun W h => h.phi (fun W hφ => hφ))
 ·
  unfold m_ref11_List_j1 at hm
  refine d_flat [(0, .string p0), (4, .slice A108 l107.length c109)] ⟨rfl, rfl, trivial⟩ (fun u => ?_)
  refine d_sta ⟨w0, M, H, (17, ⟨.slice A108 l107.length c109, 3, 1, l107.length, l107.flatMap (fun x : Int => [Value.int .i64 x])⟩) :: R, φ⟩ (fun _ h => h) <| d_then <| c_seq <| c_region <| g_v rfl r_move <| g_v rfl r_move <| g_v rfl (r_len Try.underlying9 rfl) <| g_v rfl (r_gtr rfl rfl) <| g_v rfl r_assign <| g_v rfl r_assign ?_
  refine g_nil <| d_then <| c_ret ?_
  replace hm := Option.some.inj hm
  subst hm
  refine d_sta _ (fun W h => ok_frontR (t := 17) (t' := 2000) h rfl) ?_
  refine d_retC (A108, c109) Try.results55 ?_ hc109 (fun W h => h.phi (fun W hφ => hφ)) (.inr rfl)
  refine res_tmp <| res_tmp <| res_nil ?_
  exact rfl
noncomputable def m_ref11_Check_j1  : Option Int :=
  some 0
noncomputable def m_ref11_Check_s2 (p0 : GLog) (i76 : Int) (i77 : Int) : Option ((Int × Int) ⊕ (Unit ⊕ Int)) :=
  if i77 < (p0.fEntries.length : Int) then
    (at_ p0.fEntries i77).bind fun x102 =>
    if x102.fTerm < i76 then
      some (.inr (.inr 1))
    else
      if 1099511627776 < x102.fTerm then
        some (.inr (.inr 1))
      else
        if x102.fKind < 0 then
          some (.inr (.inr 1))
        else
          if 2 < x102.fKind then
            some (.inr (.inr 1))
          else
            if 8000 < (x102.fData.size : Int) then
              some (.inr (.inr 1))
            else
              (m_ref11_List x102.fData).bind fun (z118 : (List Int) × Bool) =>
              if x102.fKind = 1 then
                if z118.2 = true then
                  some (.inl (x102.fTerm, w64 (i77 + 1)))
                else
                  some (.inr (.inr 1))
              else
                some (.inl (x102.fTerm, w64 (i77 + 1)))
  else
    some (.inr (.inl ()))
noncomputable def m_ref11_Check (p0 : GLog) : Option Int :=
  if p0.fBase < 0 then
    some 1
  else
    if 1099511627776 < p0.fBase then
      some 1
    else
      if p0.fBaseTerm < 0 then
        some 1
      else
        if 1099511627776 < p0.fBaseTerm then
          some 1
        else
          if 100000 < (p0.fEntries.length : Int) then
            some 1
          else
            (loop (fun s => m_ref11_Check_s2 p0 s.1 s.2) (p0.fBaseTerm, 0)).bind fun e => Sum.elim (fun e => m_ref11_Check_j1) (fun x => some x) e
theorem c_ref11_Check {w0 : World} {M : Nat → Prop} {H : List (Nat × Nat × Obj)} {R : List (Nat × Row)} {φ : World → Prop} (p0 : GLog) (Ap0_0 : Option Addr) (cp0_0 : Nat) (hcp0_0 : p0.fEntries.length ≤ cp0_0) (fp0_0 : ∀ W, (Sta.mk w0 M H R φ).ok W → Cl W Ap0_0 (p0.fEntries.flatMap GEntry.enc)) (r : Int) (hm : m_ref11_Check p0 = some r) :
    Cn Try.prog 33 #[.agg #[.int .i64 p0.fBase, .int .i64 p0.fBaseTerm, .slice Ap0_0 p0.fEntries.length cp0_0]] ⟨w0, M, H, R, φ⟩ (fun x : Unit => .int .i64 r) (fun x => True) (fun x => ⟨w0, M, H, R, φ⟩) := by
 unfold m_ref11_Check at hm
 refine cn_intro (fn := Try.f33) (N := 86) Try.func33 rfl Try.ntmps33 rfl <| c_seq <| c_region ?_
 refine g_e rfl (e_box 100010 rfl) (fun g1 _ => ?_)
 refine g_v rfl r_assign <| g_nil <| d_then <| c_seq <| c_seq <| c_region <| g_v rfl (r_field (n := 0) Try.underlying38 rfl Try.sizeOf3 rfl rfl) <| g_v rfl (r_load (tag := 100010) rfl rfl rfl Try.isAgg3) <| g_v rfl (r_lss rfl rfl) <| g_v rfl r_move ?_
 refine g_if rfl rfl rfl rfl rfl (fun h2 => ?_) (fun h2 => ?_)
 ·
  replace hm := ite_f hm (of_decide_eq_false h2)
  refine g_v rfl (r_field (n := 0) Try.underlying38 rfl Try.sizeOf3 rfl rfl) <| g_do rfl rfl rfl rfl rfl h2 <| g_v rfl (r_load (tag := 100010) rfl rfl rfl Try.isAgg3) <| g_do rfl rfl rfl rfl rfl h2 <| g_v rfl (r_gtr rfl rfl) <| g_v rfl (r_pick0 rfl h2) <| g_v rfl r_move ?_
  refine g_if rfl rfl rfl rfl rfl (fun h3 => ?_) (fun h3 => ?_)
  ·
   replace hm := ite_f hm (of_decide_eq_false h3)
   refine g_v rfl (r_field (n := 1) Try.underlying38 rfl Try.sizeOf3 rfl rfl) <| g_do rfl rfl rfl rfl rfl h3 <| g_v rfl (r_load (tag := 100010) rfl rfl rfl Try.isAgg3) <| g_do rfl rfl rfl rfl rfl h3 <| g_v rfl (r_lss rfl rfl) <| g_v rfl (r_pick0 rfl h3) <| g_v rfl r_move ?_
   refine g_if rfl rfl rfl rfl rfl (fun h4 => ?_) (fun h4 => ?_)
   ·
    replace hm := ite_f hm (of_decide_eq_false h4)
    refine g_v rfl (r_field (n := 1) Try.underlying38 rfl Try.sizeOf3 rfl rfl) <| g_do rfl rfl rfl rfl rfl h4 <| g_v rfl (r_load (tag := 100010) rfl rfl rfl Try.isAgg3) <| g_do rfl rfl rfl rfl rfl h4 <| g_v rfl (r_gtr rfl rfl) <| g_v rfl (r_pick0 rfl h4) <| g_v rfl r_move ?_
    refine g_if rfl rfl rfl rfl rfl (fun h5 => ?_) (fun h5 => ?_)
    ·
     replace hm := ite_f hm (of_decide_eq_false h5)
     refine g_v rfl (r_field (n := 2) Try.underlying38 rfl Try.sizeOf22 rfl rfl) <| g_do rfl rfl rfl rfl rfl h5 <| g_v rfl (r_load (tag := 100010) rfl rfl rfl Try.isAgg22) <| g_do rfl rfl rfl rfl rfl h5 <| g_v rfl (r_lenL Try.underlying22 rfl) <| g_do rfl rfl rfl rfl rfl h5 <| g_v rfl (r_gtr rfl rfl) <| g_v rfl (r_pick0 rfl h5) <| g_nil <| d_then ?_
     refine c_flat [(1, .pointer (some ⟨g1, 0, none⟩)), (31, .bool (decide (100000 < (p0.fEntries.length : Int))))] ⟨rfl, rfl, trivial⟩ (fun u => ?_)
     refine c_sta ⟨w0, M, (100010, g1, .cells #[.int .i64 p0.fBase, .int .i64 p0.fBaseTerm, .slice Ap0_0 p0.fEntries.length cp0_0] 38 (0, 0)) :: H, R, φ⟩ (fun _ h => h) ?_
     refine c_cond rfl (fun h6 => ?_) (fun h6 => ?_)
     ·
      replace hm := ite_t hm (of_decide_eq_true h6)
      refine c_seq <| c_region <| g_v rfl r_assign <| g_nil <| d_then <| c_ret <| d_ret_then ?_
      replace hm := Option.some.inj hm
      subst hm
      refine d_retC () Try.results33 ?_ trivial (fun W h => ok_pre (H1 := [_]) (R1 := []) h (fun W hφ => hφ)) (.inr rfl)
      refine res_tmp <| res_nil ?_
      exact rfl
     ·
      replace hm := ite_f hm (of_decide_eq_false h6)
      refine c_skip <| d_then <| c_seq <| c_region <| g_v rfl (r_field (n := 1) Try.underlying38 rfl Try.sizeOf3 rfl rfl) <| g_v rfl (r_load (tag := 100010) rfl rfl rfl Try.isAgg3) <| g_v rfl r_assign <| g_nil <| d_then <| c_seq ?_
      refine c_seq <| c_region <| g_v rfl r_assign <| g_nil <| d_then ?_
      refine c_cut (ι := Unit) [] (fun _ => []) (fun _ => ⟨w0, M, H, R, φ⟩) (fun _ => m_ref11_Check_j1 = some r) ?_ (fun _ u hm => ?_)
      ·
       refine c_block ?_
       replace hm := bnd hm
       obtain ⟨out2, hl2, hr2⟩ := hm
       obtain ⟨n100', hl2⟩ := loop_lp hl2
       refine c_loopU (ι := Nat × Int × Int) [1, 3, 4] (fun ⟨n100, i76, i77⟩ => [(3, .int .i64 i76), (4, .int .i64 i77)]) (fun ⟨n100, i76, i77⟩ => ⟨w0, M, (100010, g1, .cells #[.int .i64 p0.fBase, .int .i64 p0.fBaseTerm, .slice Ap0_0 p0.fEntries.length cp0_0] 38 (0, 0)) :: H, R, φ⟩) (fun ⟨n100, i76, i77⟩ => Lp (fun s => m_ref11_Check_s2 p0 s.1 s.2) n100 (i76, i77) out2) (fun ⟨n100, i76, i77⟩ => n100) (n100', p0.fBaseTerm, 0) hl2 ⟨rfl, rfl, rfl, trivial⟩ (fun W h => h.phi (fun W hφ => hφ)) (fun ⟨n100, i76, i77⟩ u hlp => ?_)
       obtain ⟨o2, hm, hnx2⟩ := lp_step hlp
       clear hlp
       replace hm : m_ref11_Check_s2 p0 i76 i77 = some o2 := hm
       unfold m_ref11_Check_s2 at hm
       refine c_flat [(1, .pointer (some ⟨g1, 0, none⟩)), (3, .int .i64 i76), (4, .int .i64 i77)] ⟨rfl, rfl, rfl, trivial⟩ (fun u => ?_)
       refine c_seq <| c_seq <| c_region <| g_v rfl r_move <| g_v rfl (r_field (n := 2) Try.underlying38 rfl Try.sizeOf22 rfl rfl) <| g_v rfl (r_load (tag := 100010) rfl rfl rfl Try.isAgg22) <| g_v rfl (r_lenL Try.underlying22 rfl) <| g_v rfl (r_lss rfl rfl) <| g_nil <| d_then ?_
       refine c_cond rfl (fun h101 => ?_) (fun h101 => ?_)
       ·
        replace hm := ite_t hm (of_decide_eq_true h101)
        refine c_skip <| d_then <| c_seq <| c_block <| c_seq <| c_region <| g_v rfl (r_field (n := 2) Try.underlying38 rfl Try.sizeOf22 rfl rfl) <| g_v rfl (r_load (tag := 100010) rfl rfl rfl Try.isAgg22) <| g_v rfl r_move ?_
        replace hm := bnd hm
        obtain ⟨x102, hx102, hm⟩ := hm
        refine g_know _ (fun W hS => cl_at (p := (Sta.mk w0 M H R φ).ok) (sz := 3) (fun _ => rfl) (by decide) (ok_pre (H1 := [_]) (R1 := []) hS (fun W h => h)) fp0_0 hx102) ?_
        rintro ⟨ad103, hA105, f104⟩
        refine g_v rfl (r_ix Try.underlying22 Try.sizeOf36 rfl hA105 rfl hx102) <| g_v rfl (r_ldA rfl Try.isAgg36 Try.sizeOf36 (fun W hS => (f104 W (ok_pre (H1 := [_]) (R1 := []) hS (fun W h => h))).take 3) rfl) ?_
        refine g_e rfl (e_alloc 100050 Try.zeroValue36) (fun g106 _ => ?_)
        refine g_storeL (tag := 100050) rfl rfl rfl rfl Try.sizeOf36 rfl rfl <| g_nil <| d_then ?_
        refine c_flat [(1, .pointer (some ⟨g1, 0, none⟩)), (3, .int .i64 i76), (4, .int .i64 i77), (5, .pointer (some ⟨g106, 0, none⟩))] ⟨rfl, rfl, rfl, rfl, trivial⟩ (fun u => ?_)
        refine c_sta ⟨w0, M, (100050, g106, .cells #[.int .i64 x102.fTerm, .int .i64 x102.fKind, .string x102.fData] 36 (0, 0)) :: (100010, g1, .cells #[.int .i64 p0.fBase, .int .i64 p0.fBaseTerm, .slice Ap0_0 p0.fEntries.length cp0_0] 38 (0, 0)) :: H, R, φ⟩ (fun _ h => h) <| c_seq <| c_seq <| c_region <| g_v rfl (r_field (n := 0) Try.underlying36 rfl Try.sizeOf3 rfl rfl) <| g_v rfl (r_load (tag := 100050) rfl rfl rfl Try.isAgg3) <| g_v rfl r_move <| g_v rfl (r_lss rfl rfl) <| g_v rfl r_move ?_
        refine g_if rfl rfl rfl rfl rfl (fun h107 => ?_) (fun h107 => ?_)
        ·
         replace hm := ite_f hm (of_decide_eq_false h107)
         refine g_v rfl (r_field (n := 0) Try.underlying36 rfl Try.sizeOf3 rfl rfl) <| g_do rfl rfl rfl rfl rfl h107 <| g_v rfl (r_load (tag := 100050) rfl rfl rfl Try.isAgg3) <| g_do rfl rfl rfl rfl rfl h107 <| g_v rfl (r_gtr rfl rfl) <| g_v rfl (r_pick0 rfl h107) <| g_v rfl r_move ?_
         refine g_if rfl rfl rfl rfl rfl (fun h108 => ?_) (fun h108 => ?_)
         ·
          replace hm := ite_f hm (of_decide_eq_false h108)
          refine g_v rfl (r_field (n := 1) Try.underlying36 rfl Try.sizeOf3 rfl rfl) <| g_do rfl rfl rfl rfl rfl h108 <| g_v rfl (r_load (tag := 100050) rfl rfl rfl Try.isAgg3) <| g_do rfl rfl rfl rfl rfl h108 <| g_v rfl (r_lss rfl rfl) <| g_v rfl (r_pick0 rfl h108) <| g_v rfl r_move ?_
          refine g_if rfl rfl rfl rfl rfl (fun h109 => ?_) (fun h109 => ?_)
          ·
           replace hm := ite_f hm (of_decide_eq_false h109)
           refine g_v rfl (r_field (n := 1) Try.underlying36 rfl Try.sizeOf3 rfl rfl) <| g_do rfl rfl rfl rfl rfl h109 <| g_v rfl (r_load (tag := 100050) rfl rfl rfl Try.isAgg3) <| g_do rfl rfl rfl rfl rfl h109 <| g_v rfl (r_gtr rfl rfl) <| g_v rfl (r_pick0 rfl h109) <| g_v rfl r_move ?_
           refine g_if rfl rfl rfl rfl rfl (fun h110 => ?_) (fun h110 => ?_)
           ·
            replace hm := ite_f hm (of_decide_eq_false h110)
            refine g_v rfl (r_field (n := 2) Try.underlying36 rfl Try.sizeOf9 rfl rfl) <| g_do rfl rfl rfl rfl rfl h110 <| g_v rfl (r_load (tag := 100050) rfl rfl rfl Try.isAgg9) <| g_do rfl rfl rfl rfl rfl h110 <| g_v rfl (r_len Try.underlying9 rfl) <| g_do rfl rfl rfl rfl rfl h110 <| g_v rfl (r_gtr rfl rfl) <| g_v rfl (r_pick0 rfl h110) <| g_nil <| d_then ?_
            refine c_flat [(1, .pointer (some ⟨g1, 0, none⟩)), (4, .int .i64 i77), (5, .pointer (some ⟨g106, 0, none⟩)), (70, .bool (decide (8000 < (x102.fData.size : Int))))] ⟨rfl, rfl, rfl, rfl, trivial⟩ (fun u => ?_)
            refine c_cond rfl (fun h111 => ?_) (fun h111 => ?_)
            ·
             replace hm := ite_t hm (of_decide_eq_true h111)
             refine c_seq <| c_region <| g_v rfl r_assign <| g_nil <| d_then <| c_ret <| d_ret_then <| d_ret_block <| d_ret_then <| d_ret_then ?_
             refine d_ret_block <| d_ret_then <| d_ret_then ?_
             replace hm := nx_out (C := (fun e : Unit ⊕ Int => Sum.elim (fun e => m_ref11_Check_j1) (fun x => some x) e = some r)) hm hnx2 hr2
             replace hm : some 1 = some r := hm
             replace hm := Option.some.inj hm
             subst hm
             refine d_retC () Try.results33 ?_ trivial (fun W h => ok_pre (H1 := [_, _]) (R1 := []) h (fun W hφ => hφ)) (.inr rfl)
             refine res_tmp <| res_nil ?_
             exact rfl
            ·
             replace hm := ite_f hm (of_decide_eq_false h111)
             refine c_skip <| d_then <| c_seq <| c_region <| g_v rfl (r_field (n := 2) Try.underlying36 rfl Try.sizeOf9 rfl rfl) <| g_v rfl (r_load (tag := 100050) rfl rfl rfl Try.isAgg9) ?_
             replace hm := bnd hm
             obtain ⟨⟨x112, x113⟩, hx114, hm⟩ := hm
             refine g_cn ⟨w0, M, _, _, φ⟩ (fun _ h => h) Try.call55 rfl rfl (c_ref11_List x102.fData _ hx114) (fun ⟨A115, c116⟩ hc116 => ?_)
             refine g_sta _ (fun W h => (ok_frontR (t := 2000) (t' := 100740) h rfl)) <| g_v rfl r_move <| g_v rfl (r_extract rfl rfl) <| g_v rfl (r_extract rfl rfl) <| g_v rfl r_assign <| g_v rfl r_assign <| g_nil <| d_then <| c_seq <| c_seq ?_
             refine c_region <| g_v rfl (r_field (n := 1) Try.underlying36 rfl Try.sizeOf3 rfl rfl) <| g_v rfl (r_load (tag := 100050) rfl rfl rfl Try.isAgg3) <| g_v rfl (r_eql rfl rfl) <| g_v rfl r_move ?_
             refine g_if rfl rfl rfl rfl rfl (fun h119 => ?_) (fun h119 => ?_)
             ·
              replace hm := ite_t hm (of_decide_eq_true h119)
              refine g_v rfl r_move <| g_do rfl rfl rfl rfl rfl h119 <| g_v rfl (r_not rfl) <| g_v rfl (r_pick1 rfl h119) <| g_nil <| d_then ?_
              refine c_flat [(1, .pointer (some ⟨g1, 0, none⟩)), (4, .int .i64 i77), (5, .pointer (some ⟨g106, 0, none⟩)), (83, .bool (!x113))] ⟨rfl, rfl, rfl, rfl, trivial⟩ (fun u => ?_)
              refine c_sta ⟨w0, M, (100050, g106, .cells #[.int .i64 x102.fTerm, .int .i64 x102.fKind, .string x102.fData] 36 (0, 0)) :: (100010, g1, .cells #[.int .i64 p0.fBase, .int .i64 p0.fBaseTerm, .slice Ap0_0 p0.fEntries.length cp0_0] 38 (0, 0)) :: H, (100740, ⟨.slice A115 x112.length c116, 3, 1, x112.length, x112.flatMap (fun x : Int => [Value.int .i64 x])⟩) :: R, φ⟩ (fun _ h => h) ?_
              refine c_cond rfl (fun h120 => ?_) (fun h120 => ?_)
              ·
               have h120' : x113 = false := by revert h120; cases x113 <;> simp
               replace hm := ite_f hm (bool_nt h120')
               refine c_seq <| c_region <| g_v rfl r_assign <| g_nil <| d_then <| c_ret <| d_ret_then <| d_ret_block <| d_ret_then <| d_ret_then ?_
               refine d_ret_block <| d_ret_then <| d_ret_then ?_
               replace hm := nx_out (C := (fun e : Unit ⊕ Int => Sum.elim (fun e => m_ref11_Check_j1) (fun x => some x) e = some r)) hm hnx2 hr2
               replace hm : some 1 = some r := hm
               replace hm := Option.some.inj hm
               subst hm
               refine d_retC () Try.results33 ?_ trivial (fun W h => ok_pre (H1 := [_, _]) (R1 := [_]) h (fun W hφ => hφ)) (.inr rfl)
               refine res_tmp <| res_nil ?_
               exact rfl
              ·
               have h120' : x113 = true := by revert h120; cases x113 <;> simp
               replace hm := ite_t hm h120'
               refine c_skip <| d_then <| c_region <| g_v rfl (r_field (n := 0) Try.underlying36 rfl Try.sizeOf3 rfl rfl) <| g_v rfl (r_load (tag := 100050) rfl rfl rfl Try.isAgg3) <| g_v rfl r_assign <| g_nil <| d_normal_block <| d_then <| c_region ?_
               refine g_v rfl r_move <| g_v rfl (r_add rfl rfl rfl) <| g_v rfl r_assign <| g_nil ?_
               obtain ⟨n121, hn121, hlp⟩ := nx_inl hm hnx2
               exact d_round (n121, x102.fTerm, w64 (i77 + 1)) hlp hn121 ⟨rfl, rfl, rfl, trivial⟩ (fun W h => ((h.dropR (t := 100740) rfl).dropH (t := 100050) rfl).phi (fun W hφ => hφ))
             ·
              replace hm := ite_f hm (of_decide_eq_false h119)
              refine g_no rfl rfl rfl rfl rfl h119 <| g_v rfl (r_pick0 rfl h119) <| g_nil <| d_then ?_
              refine c_flat [(1, .pointer (some ⟨g1, 0, none⟩)), (4, .int .i64 i77), (5, .pointer (some ⟨g106, 0, none⟩)), (83, .bool false)] ⟨rfl, rfl, rfl, rfl, trivial⟩ (fun u => ?_)
              refine c_sta ⟨w0, M, (100050, g106, .cells #[.int .i64 x102.fTerm, .int .i64 x102.fKind, .string x102.fData] 36 (0, 0)) :: (100010, g1, .cells #[.int .i64 p0.fBase, .int .i64 p0.fBaseTerm, .slice Ap0_0 p0.fEntries.length cp0_0] 38 (0, 0)) :: H, (100740, ⟨.slice A115 x112.length c116, 3, 1, x112.length, x112.flatMap (fun x : Int => [Value.int .i64 x])⟩) :: R, φ⟩ (fun _ h => h) <| c_cond0 rfl rfl <| c_skip <| d_then <| c_region <| g_v rfl (r_field (n := 0) Try.underlying36 rfl Try.sizeOf3 rfl rfl) <| g_v rfl (r_load (tag := 100050) rfl rfl rfl Try.isAgg3) <| g_v rfl r_assign <| g_nil <| d_normal_block ?_
              refine d_then <| c_region <| g_v rfl r_move <| g_v rfl (r_add rfl rfl rfl) <| g_v rfl r_assign <| g_nil ?_
              obtain ⟨n122, hn122, hlp⟩ := nx_inl hm hnx2
              exact d_round (n122, x102.fTerm, w64 (i77 + 1)) hlp hn122 ⟨rfl, rfl, rfl, trivial⟩ (fun W h => ((h.dropR (t := 100740) rfl).dropH (t := 100050) rfl).phi (fun W hφ => hφ))
           ·
            replace hm := ite_t hm (of_decide_eq_true h110)
            refine g_no rfl rfl rfl rfl rfl h110 <| g_no rfl rfl rfl rfl rfl h110 <| g_no rfl rfl rfl rfl rfl h110 <| g_v rfl (r_pick1 rfl h110) <| g_nil <| d_then ?_
            refine c_flat [(1, .pointer (some ⟨g1, 0, none⟩)), (4, .int .i64 i77), (5, .pointer (some ⟨g106, 0, none⟩)), (70, .bool true)] ⟨rfl, rfl, rfl, rfl, trivial⟩ (fun u => ?_)
            refine c_cond1 rfl rfl <| c_seq <| c_region <| g_v rfl r_assign <| g_nil <| d_then <| c_ret <| d_ret_then <| d_ret_block <| d_ret_then ?_
            refine d_ret_then <| d_ret_block <| d_ret_then <| d_ret_then ?_
            replace hm := nx_out (C := (fun e : Unit ⊕ Int => Sum.elim (fun e => m_ref11_Check_j1) (fun x => some x) e = some r)) hm hnx2 hr2
            replace hm : some 1 = some r := hm
            replace hm := Option.some.inj hm
            subst hm
            refine d_retC () Try.results33 ?_ trivial (fun W h => ok_pre (H1 := [_, _]) (R1 := []) h (fun W hφ => hφ)) (.inr rfl)
            refine res_tmp <| res_nil ?_
            exact rfl
          ·
           replace hm := ite_t hm (of_decide_eq_true h109)
           refine g_no rfl rfl rfl rfl rfl h109 <| g_no rfl rfl rfl rfl rfl h109 <| g_v rfl (r_pick1 rfl h109) <| g_v rfl r_move <| g_no rfl rfl rfl rfl rfl rfl <| g_no rfl rfl rfl rfl rfl rfl <| g_no rfl rfl rfl rfl rfl rfl <| g_no rfl rfl rfl rfl rfl rfl <| g_v rfl (r_pick1 rfl rfl) <| g_nil ?_
           refine d_then ?_
           refine c_flat [(1, .pointer (some ⟨g1, 0, none⟩)), (4, .int .i64 i77), (5, .pointer (some ⟨g106, 0, none⟩)), (70, .bool true)] ⟨rfl, rfl, rfl, rfl, trivial⟩ (fun u => ?_)
           refine c_cond1 rfl rfl <| c_seq <| c_region <| g_v rfl r_assign <| g_nil <| d_then <| c_ret <| d_ret_then <| d_ret_block <| d_ret_then ?_
           refine d_ret_then <| d_ret_block <| d_ret_then <| d_ret_then ?_
           replace hm := nx_out (C := (fun e : Unit ⊕ Int => Sum.elim (fun e => m_ref11_Check_j1) (fun x => some x) e = some r)) hm hnx2 hr2
           replace hm : some 1 = some r := hm
           replace hm := Option.some.inj hm
           subst hm
           refine d_retC () Try.results33 ?_ trivial (fun W h => ok_pre (H1 := [_, _]) (R1 := []) h (fun W hφ => hφ)) (.inr rfl)
           refine res_tmp <| res_nil ?_
           exact rfl
         ·
          replace hm := ite_t hm (of_decide_eq_true h108)
          refine g_no rfl rfl rfl rfl rfl h108 <| g_no rfl rfl rfl rfl rfl h108 <| g_v rfl (r_pick1 rfl h108) <| g_v rfl r_move <| g_no rfl rfl rfl rfl rfl rfl <| g_no rfl rfl rfl rfl rfl rfl <| g_no rfl rfl rfl rfl rfl rfl <| g_v rfl (r_pick1 rfl rfl) <| g_v rfl r_move <| g_no rfl rfl rfl rfl rfl rfl ?_
          refine g_no rfl rfl rfl rfl rfl rfl <| g_no rfl rfl rfl rfl rfl rfl <| g_no rfl rfl rfl rfl rfl rfl <| g_v rfl (r_pick1 rfl rfl) <| g_nil <| d_then ?_
          refine c_flat [(1, .pointer (some ⟨g1, 0, none⟩)), (4, .int .i64 i77), (5, .pointer (some ⟨g106, 0, none⟩)), (70, .bool true)] ⟨rfl, rfl, rfl, rfl, trivial⟩ (fun u => ?_)
          refine c_cond1 rfl rfl <| c_seq <| c_region <| g_v rfl r_assign <| g_nil <| d_then <| c_ret <| d_ret_then <| d_ret_block <| d_ret_then ?_
          refine d_ret_then <| d_ret_block <| d_ret_then <| d_ret_then ?_
          replace hm := nx_out (C := (fun e : Unit ⊕ Int => Sum.elim (fun e => m_ref11_Check_j1) (fun x => some x) e = some r)) hm hnx2 hr2
          replace hm : some 1 = some r := hm
          replace hm := Option.some.inj hm
          subst hm
          refine d_retC () Try.results33 ?_ trivial (fun W h => ok_pre (H1 := [_, _]) (R1 := []) h (fun W hφ => hφ)) (.inr rfl)
          refine res_tmp <| res_nil ?_
          exact rfl
        ·
         replace hm := ite_t hm (of_decide_eq_true h107)
         refine g_no rfl rfl rfl rfl rfl h107 <| g_no rfl rfl rfl rfl rfl h107 <| g_v rfl (r_pick1 rfl h107) <| g_v rfl r_move <| g_no rfl rfl rfl rfl rfl rfl <| g_no rfl rfl rfl rfl rfl rfl <| g_no rfl rfl rfl rfl rfl rfl <| g_v rfl (r_pick1 rfl rfl) <| g_v rfl r_move <| g_no rfl rfl rfl rfl rfl rfl ?_
         refine g_no rfl rfl rfl rfl rfl rfl <| g_no rfl rfl rfl rfl rfl rfl <| g_v rfl (r_pick1 rfl rfl) <| g_v rfl r_move <| g_no rfl rfl rfl rfl rfl rfl <| g_no rfl rfl rfl rfl rfl rfl <| g_no rfl rfl rfl rfl rfl rfl <| g_no rfl rfl rfl rfl rfl rfl <| g_v rfl (r_pick1 rfl rfl) <| g_nil ?_
         refine d_then ?_
         refine c_flat [(1, .pointer (some ⟨g1, 0, none⟩)), (4, .int .i64 i77), (5, .pointer (some ⟨g106, 0, none⟩)), (70, .bool true)] ⟨rfl, rfl, rfl, rfl, trivial⟩ (fun u => ?_)
         refine c_cond1 rfl rfl <| c_seq <| c_region <| g_v rfl r_assign <| g_nil <| d_then <| c_ret <| d_ret_then <| d_ret_block <| d_ret_then ?_
         refine d_ret_then <| d_ret_block <| d_ret_then <| d_ret_then ?_
         replace hm := nx_out (C := (fun e : Unit ⊕ Int => Sum.elim (fun e => m_ref11_Check_j1) (fun x => some x) e = some r)) hm hnx2 hr2
         replace hm : some 1 = some r := hm
         replace hm := Option.some.inj hm
         subst hm
         refine d_retC () Try.results33 ?_ trivial (fun W h => ok_pre (H1 := [_, _]) (R1 := []) h (fun W hφ => hφ)) (.inr rfl)
         refine res_tmp <| res_nil ?_
         exact rfl
       ·
        replace hm := ite_f hm (of_decide_eq_false h101)
        refine c_exit <| d_exit_then <| d_exit_then <| d_exit_block ?_
        replace hm := nx_out (C := (fun e : Unit ⊕ Int => Sum.elim (fun e => m_ref11_Check_j1) (fun x => some x) e = some r)) hm hnx2 hr2
        exact d_round () hm Nat.zero_lt_one trivial (fun W h => (h.dropH (t := 100010) rfl).phi (fun W hφ => hφ))
      ·
       unfold m_ref11_Check_j1 at hm
       refine d_flat [] trivial (fun u => ?_)
       refine d_sta ⟨w0, M, H, R, φ⟩ (fun _ h => h) <| d_then <| c_seq <| c_region <| g_v rfl r_assign <| g_nil <| d_then <| c_ret ?_
       replace hm := Option.some.inj hm
       subst hm
       refine d_retC () Try.results33 ?_ trivial (fun W h => ok_pre (H1 := []) (R1 := []) h (fun W hφ => hφ)) (.inr rfl)
       refine res_tmp <| res_nil ?_
       exact rfl
    ·
     replace hm := ite_t hm (of_decide_eq_true h5)
     refine g_no rfl rfl rfl rfl rfl h5 <| g_no rfl rfl rfl rfl rfl h5 <| g_no rfl rfl rfl rfl rfl h5 <| g_v rfl (r_pick1 rfl h5) <| g_nil <| d_then ?_
     refine c_flat [(1, .pointer (some ⟨g1, 0, none⟩)), (31, .bool true)] ⟨rfl, rfl, trivial⟩ (fun u => ?_)
     refine c_sta ⟨w0, M, (100010, g1, .cells #[.int .i64 p0.fBase, .int .i64 p0.fBaseTerm, .slice Ap0_0 p0.fEntries.length cp0_0] 38 (0, 0)) :: H, R, φ⟩ (fun _ h => h) <| c_cond1 rfl rfl <| c_seq <| c_region <| g_v rfl r_assign <| g_nil <| d_then <| c_ret <| d_ret_then ?_
     replace hm := Option.some.inj hm
     subst hm
     refine d_retC () Try.results33 ?_ trivial (fun W h => ok_pre (H1 := [_]) (R1 := []) h (fun W hφ => hφ)) (.inr rfl)
     refine res_tmp <| res_nil ?_
     exact rfl
   ·
    replace hm := ite_t hm (of_decide_eq_true h4)
    refine g_no rfl rfl rfl rfl rfl h4 <| g_no rfl rfl rfl rfl rfl h4 <| g_v rfl (r_pick1 rfl h4) <| g_v rfl r_move <| g_no rfl rfl rfl rfl rfl rfl <| g_no rfl rfl rfl rfl rfl rfl <| g_no rfl rfl rfl rfl rfl rfl <| g_no rfl rfl rfl rfl rfl rfl <| g_v rfl (r_pick1 rfl rfl) <| g_nil ?_
    refine d_then ?_
    refine c_flat [(1, .pointer (some ⟨g1, 0, none⟩)), (31, .bool true)] ⟨rfl, rfl, trivial⟩ (fun u => ?_)
    refine c_sta ⟨w0, M, (100010, g1, .cells #[.int .i64 p0.fBase, .int .i64 p0.fBaseTerm, .slice Ap0_0 p0.fEntries.length cp0_0] 38 (0, 0)) :: H, R, φ⟩ (fun _ h => h) <| c_cond1 rfl rfl <| c_seq <| c_region <| g_v rfl r_assign <| g_nil <| d_then <| c_ret <| d_ret_then ?_
    replace hm := Option.some.inj hm
    subst hm
    refine d_retC () Try.results33 ?_ trivial (fun W h => ok_pre (H1 := [_]) (R1 := []) h (fun W hφ => hφ)) (.inr rfl)
    refine res_tmp <| res_nil ?_
    exact rfl
  ·
   replace hm := ite_t hm (of_decide_eq_true h3)
   refine g_no rfl rfl rfl rfl rfl h3 <| g_no rfl rfl rfl rfl rfl h3 <| g_v rfl (r_pick1 rfl h3) <| g_v rfl r_move <| g_no rfl rfl rfl rfl rfl rfl <| g_no rfl rfl rfl rfl rfl rfl <| g_no rfl rfl rfl rfl rfl rfl <| g_v rfl (r_pick1 rfl rfl) <| g_v rfl r_move <| g_no rfl rfl rfl rfl rfl rfl ?_
   refine g_no rfl rfl rfl rfl rfl rfl <| g_no rfl rfl rfl rfl rfl rfl <| g_no rfl rfl rfl rfl rfl rfl <| g_v rfl (r_pick1 rfl rfl) <| g_nil <| d_then ?_
   refine c_flat [(1, .pointer (some ⟨g1, 0, none⟩)), (31, .bool true)] ⟨rfl, rfl, trivial⟩ (fun u => ?_)
   refine c_sta ⟨w0, M, (100010, g1, .cells #[.int .i64 p0.fBase, .int .i64 p0.fBaseTerm, .slice Ap0_0 p0.fEntries.length cp0_0] 38 (0, 0)) :: H, R, φ⟩ (fun _ h => h) <| c_cond1 rfl rfl <| c_seq <| c_region <| g_v rfl r_assign <| g_nil <| d_then <| c_ret <| d_ret_then ?_
   replace hm := Option.some.inj hm
   subst hm
   refine d_retC () Try.results33 ?_ trivial (fun W h => ok_pre (H1 := [_]) (R1 := []) h (fun W hφ => hφ)) (.inr rfl)
   refine res_tmp <| res_nil ?_
   exact rfl
 ·
  replace hm := ite_t hm (of_decide_eq_true h2)
  refine g_no rfl rfl rfl rfl rfl h2 <| g_no rfl rfl rfl rfl rfl h2 <| g_v rfl (r_pick1 rfl h2) <| g_v rfl r_move <| g_no rfl rfl rfl rfl rfl rfl <| g_no rfl rfl rfl rfl rfl rfl <| g_no rfl rfl rfl rfl rfl rfl <| g_v rfl (r_pick1 rfl rfl) <| g_v rfl r_move <| g_no rfl rfl rfl rfl rfl rfl ?_
  refine g_no rfl rfl rfl rfl rfl rfl <| g_no rfl rfl rfl rfl rfl rfl <| g_v rfl (r_pick1 rfl rfl) <| g_v rfl r_move <| g_no rfl rfl rfl rfl rfl rfl <| g_no rfl rfl rfl rfl rfl rfl <| g_no rfl rfl rfl rfl rfl rfl <| g_no rfl rfl rfl rfl rfl rfl <| g_v rfl (r_pick1 rfl rfl) <| g_nil ?_
  refine d_then ?_
  refine c_flat [(1, .pointer (some ⟨g1, 0, none⟩)), (31, .bool true)] ⟨rfl, rfl, trivial⟩ (fun u => ?_)
  refine c_sta ⟨w0, M, (100010, g1, .cells #[.int .i64 p0.fBase, .int .i64 p0.fBaseTerm, .slice Ap0_0 p0.fEntries.length cp0_0] 38 (0, 0)) :: H, R, φ⟩ (fun _ h => h) <| c_cond1 rfl rfl <| c_seq <| c_region <| g_v rfl r_assign <| g_nil <| d_then <| c_ret <| d_ret_then ?_
  replace hm := Option.some.inj hm
  subst hm
  refine d_retC () Try.results33 ?_ trivial (fun W h => ok_pre (H1 := [_]) (R1 := []) h (fun W hφ => hφ)) (.inr rfl)
  refine res_tmp <| res_nil ?_
  exact rfl
noncomputable def m_ref11_Right_j1 (p0 : List Int) : Option Bool :=
  some (decide (0 < (p0.length : Int)))
noncomputable def m_ref11_Right_s2 (p0 : List Int) (i127 : Int) : Option (Int ⊕ (Unit ⊕ Bool)) :=
  if i127 < (p0.length : Int) then
    (at_ p0 i127).bind fun x228 =>
    if x228 < 0 then
      some (.inr (.inr false))
    else
      (at_ p0 i127).bind fun x233 =>
      if 63 < x233 then
        some (.inr (.inr false))
      else
        if 0 < i127 then
          (at_ p0 i127).bind fun x239 =>
          (at_ p0 (w64 (i127 - 1))).bind fun x243 =>
          if x239 ≤ x243 then
            some (.inr (.inr false))
          else
            some (.inl (w64 (i127 + 1)))
        else
          some (.inl (w64 (i127 + 1)))
  else
    some (.inr (.inl ()))
noncomputable def m_ref11_Right (p0 : List Int) : Option Bool :=
  (loop (fun s => m_ref11_Right_s2 p0 s) 0).bind fun e => Sum.elim (fun e => m_ref11_Right_j1 p0) (fun x => some x) e
theorem c_ref11_Right {w0 : World} {M : Nat → Prop} {H : List (Nat × Nat × Obj)} {R : List (Nat × Row)} {φ : World → Prop} (p0 : List Int) (Ap0_0 : Option Addr) (cp0_0 : Nat) (hcp0_0 : p0.length ≤ cp0_0) (fp0_0 : ∀ W, (Sta.mk w0 M H R φ).ok W → Cl W Ap0_0 (p0.flatMap (fun x : Int => [Value.int .i64 x]))) (r : Bool) (hm : m_ref11_Right p0 = some r) :
    Cn Try.prog 34 #[.slice Ap0_0 p0.length cp0_0] ⟨w0, M, H, R, φ⟩ (fun x : Unit => .bool r) (fun x => True) (fun x => ⟨w0, M, H, R, φ⟩) := by
 unfold m_ref11_Right at hm
 refine cn_intro (fn := Try.f34) (N := 41) Try.func34 rfl Try.ntmps34 rfl <| c_seq <| c_region <| g_v rfl r_assign <| g_nil <| d_then <| c_seq <| c_seq <| c_region <| g_v rfl r_assign ?_
 refine g_nil <| d_then ?_
 refine c_cut (ι := Unit) [0] (fun _ => []) (fun _ => ⟨w0, M, H, R, φ⟩) (fun _ => m_ref11_Right_j1 p0 = some r) ?_ (fun _ u hm => ?_)
 ·
  refine c_block ?_
  replace hm := bnd hm
  obtain ⟨out2, hl2, hr2⟩ := hm
  obtain ⟨n188', hl2⟩ := loop_lp hl2
  refine c_loopU (ι := Nat × Int) [0, 3] (fun ⟨n188, i127⟩ => [(3, .int .i64 i127)]) (fun ⟨n188, i127⟩ => ⟨w0, M, H, R, φ⟩) (fun ⟨n188, i127⟩ => Lp (fun s => m_ref11_Right_s2 p0 s) n188 i127 out2) (fun ⟨n188, i127⟩ => n188) (n188', 0) hl2 ⟨rfl, rfl, trivial⟩ (fun W h => h.phi (fun W hφ => hφ)) (fun ⟨n188, i127⟩ u hlp => ?_)
  obtain ⟨o2, hm, hnx2⟩ := lp_step hlp
  clear hlp
  replace hm : m_ref11_Right_s2 p0 i127 = some o2 := hm
  unfold m_ref11_Right_s2 at hm
  refine c_flat [(0, .slice Ap0_0 p0.length cp0_0), (3, .int .i64 i127)] ⟨rfl, rfl, trivial⟩ (fun u => ?_)
  refine c_sta ⟨w0, M, H, R, φ⟩ (fun _ h => h) <| c_seq <| c_seq <| c_region <| g_v rfl r_move <| g_v rfl r_move <| g_v rfl (r_lenL Try.underlying23 rfl) <| g_v rfl (r_lss rfl rfl) <| g_nil <| d_then ?_
  refine c_cond rfl (fun h189 => ?_) (fun h189 => ?_)
  ·
   replace hm := ite_t hm (of_decide_eq_true h189)
   refine c_skip <| d_then <| c_seq <| c_block <| c_seq <| ga_start (n := 28) ⟨w0, M, H, R, φ⟩ [] #[false, false, false, false, false, false, false, false, false, false, false, false, false, false, false, false, false, false, false, false, false, false, false, false, false, false, false, false] (fun W h => h.phi (fun W hφ => hφ)) mixed rfl rfl <| ga_v (i := 0) (bz 28 1) rfl (by kernel_rfl) (fun _ _ _ _ h => h) rfl (r_move) <| ga_r (i := 1) (bz 28 3) rfl (by kernel_rfl) (by decide) rfl (r_move) ?_
   replace hm := bnd hm
   obtain ⟨x228, hx228, hm⟩ := hm
   refine ga_know _ (fun W hS => cl_at (p := (Sta.mk w0 M H R φ).ok) (sz := 1) (fun _ => rfl) (by decide) (ok_pre (H1 := []) (R1 := []) hS (fun W h => h)) fp0_0 hx228) ?_
   rintro ⟨ad229, hA231, f230⟩
   refine ga_r (i := 2) (bz 28 7) rfl (by kernel_rfl) (by decide) rfl (r_ix Try.underlying23 Try.sizeOf3 rfl hA231 rfl hx228) <| ga_r (i := 3) (bz 28 15) rfl (by kernel_rfl) (by decide) rfl (r_ld rfl Try.isAgg3 (fun W hS => Cl.head (f230 W (ok_pre (H1 := []) (R1 := []) hS (fun W h => h))))) <| ga_r (i := 4) (bz 28 31) rfl (by kernel_rfl) (by decide) rfl (r_lss rfl rfl) <| ga_r (i := 5) (bz 28 63) rfl (by kernel_rfl) (by decide) rfl (r_move) ?_
   refine ga_if (t := 15) rfl (fun h232 => ?_) (fun h232 => ?_)
   ·
    replace hm := ite_t hm (of_decide_eq_true h232)
    refine ga_no (i := 6) (bz 28 127) rfl (by kernel_rfl) (fun _ _ _ _ h => h) rfl rfl rfl rfl rfl h232 <| ga_no (i := 7) (bz 28 255) rfl (by kernel_rfl) (fun _ _ _ _ h => h) rfl rfl rfl rfl rfl h232 <| ga_no (i := 8) (bz 28 511) rfl (by kernel_rfl) (fun _ _ _ _ h => h) rfl rfl rfl rfl rfl h232 <| ga_no (i := 9) (bz 28 1023) rfl (by kernel_rfl) (fun _ _ _ _ h => h) rfl rfl rfl rfl rfl h232 <| ga_no (i := 10) (bz 28 2047) rfl (by kernel_rfl) (fun _ _ _ _ h => h) rfl rfl rfl rfl rfl h232 <| ga_r (i := 11) (bz 28 4095) rfl (by kernel_rfl) (by decide) rfl (r_pick1 rfl h232) <| ga_r (i := 12) (bz 28 8191) rfl (by kernel_rfl) (by decide) rfl (r_move) <| ga_no (i := 13) (bz 28 16383) rfl (by kernel_rfl) (fun _ _ _ _ h => h) rfl rfl rfl rfl rfl rfl <| ga_no (i := 14) (bz 28 32767) rfl (by kernel_rfl) (fun _ _ _ _ h => h) rfl rfl rfl rfl rfl rfl <| ga_no (i := 15) (bz 28 65535) rfl (by kernel_rfl) (fun _ _ _ _ h => h) rfl rfl rfl rfl rfl rfl ?_
    refine ga_nu (i := 16) (bz 28 131071) rfl (by kernel_rfl) (fun _ _ _ _ h => h) rfl rfl rfl rfl rfl <| ga_nu (i := 17) (bz 28 262143) rfl (by kernel_rfl) (fun _ _ _ _ h => h) rfl rfl rfl rfl rfl <| ga_nu (i := 18) (bz 28 524287) rfl (by kernel_rfl) (fun _ _ _ _ h => h) rfl rfl rfl rfl rfl <| ga_nu (i := 19) (bz 28 1048575) rfl (by kernel_rfl) (fun _ _ _ _ h => h) rfl rfl rfl rfl rfl <| ga_nu (i := 20) (bz 28 2097151) rfl (by kernel_rfl) (fun _ _ _ _ h => h) rfl rfl rfl rfl rfl <| ga_nu (i := 21) (bz 28 4194303) rfl (by kernel_rfl) (fun _ _ _ _ h => h) rfl rfl rfl rfl rfl <| ga_nu (i := 22) (bz 28 8388607) rfl (by kernel_rfl) (fun _ _ _ _ h => h) rfl rfl rfl rfl rfl <| ga_nu (i := 23) (bz 28 16777215) rfl (by kernel_rfl) (fun _ _ _ _ h => h) rfl rfl rfl rfl rfl <| ga_nu (i := 24) (bz 28 33554431) rfl (by kernel_rfl) (fun _ _ _ _ h => h) rfl rfl rfl rfl rfl <| ga_nu (i := 25) (bz 28 67108863) rfl (by kernel_rfl) (fun _ _ _ _ h => h) rfl rfl rfl rfl rfl ?_
    refine ga_no (i := 26) (bz 28 134217727) rfl (by kernel_rfl) (fun _ _ _ _ h => h) rfl rfl rfl rfl rfl rfl <| ga_r (i := 27) (bz 28 268435455) rfl (by kernel_rfl) (by decide) rfl (r_pick1 rfl rfl) <| ga_done (by kernel_rfl) <| d_then ?_
    refine c_flat [(0, .slice Ap0_0 p0.length cp0_0), (3, .int .i64 i127), (37, .bool true)] ⟨rfl, rfl, rfl, trivial⟩ (fun u => ?_)
    refine c_cond1 rfl rfl <| c_seq <| c_region <| g_v rfl r_assign <| g_nil <| d_then <| c_ret <| d_ret_block <| d_ret_then <| d_ret_then ?_
    refine d_ret_block <| d_ret_then <| d_ret_then ?_
    replace hm := nx_out (C := (fun e : Unit ⊕ Bool => Sum.elim (fun e => m_ref11_Right_j1 p0) (fun x => some x) e = some r)) hm hnx2 hr2
    replace hm : some false = some r := hm
    replace hm := Option.some.inj hm
    subst hm
    refine d_retC () Try.results34 ?_ trivial (fun W h => ok_pre (H1 := []) (R1 := []) h (fun W hφ => hφ)) (.inr rfl)
    refine res_tmp <| res_nil ?_
    exact rfl
   ·
    replace hm := ite_f hm (of_decide_eq_false h232)
    refine ga_do (i := 6) (bz 28 127) rfl (by kernel_rfl) (fun _ _ _ _ h => h) rfl rfl rfl rfl rfl h232 (r_move) <| ga_rG (i := 7) (bz 28 255) rfl (by kernel_rfl) (by decide) rfl rfl rfl rfl rfl h232 (r_move) ?_
    replace hm := bnd hm
    obtain ⟨x233, hx233, hm⟩ := hm
    refine ga_know _ (fun W hS => cl_at (p := (Sta.mk w0 M H R φ).ok) (sz := 1) (fun _ => rfl) (by decide) (ok_pre (H1 := []) (R1 := []) hS (fun W h => h)) fp0_0 hx233) ?_
    rintro ⟨ad234, hA236, f235⟩
    refine ga_rG (i := 8) (bz 28 511) rfl (by kernel_rfl) (by decide) rfl rfl rfl rfl rfl h232 (r_ix Try.underlying23 Try.sizeOf3 rfl hA236 rfl hx233) <| ga_rG (i := 9) (bz 28 1023) rfl (by kernel_rfl) (by decide) rfl rfl rfl rfl rfl h232 (r_ld rfl Try.isAgg3 (fun W hS => Cl.head (f235 W (ok_pre (H1 := []) (R1 := []) hS (fun W h => h))))) <| ga_rG (i := 10) (bz 28 2047) rfl (by kernel_rfl) (by decide) rfl rfl rfl rfl rfl h232 (r_gtr rfl rfl) <| ga_r (i := 11) (bz 28 4095) rfl (by kernel_rfl) (by decide) rfl (r_pick0 rfl h232) <| ga_r (i := 12) (bz 28 8191) rfl (by kernel_rfl) (by decide) rfl (r_move) ?_
    refine ga_if (t := 22) rfl (fun h237 => ?_) (fun h237 => ?_)
    ·
     replace hm := ite_t hm (of_decide_eq_true h237)
     refine ga_no (i := 13) (bz 28 16383) rfl (by kernel_rfl) (fun _ _ _ _ h => h) rfl rfl rfl rfl rfl h237 <| ga_no (i := 14) (bz 28 32767) rfl (by kernel_rfl) (fun _ _ _ _ h => h) rfl rfl rfl rfl rfl h237 <| ga_no (i := 15) (bz 28 65535) rfl (by kernel_rfl) (fun _ _ _ _ h => h) rfl rfl rfl rfl rfl h237 <| ga_nu (i := 16) (bz 28 131071) rfl (by kernel_rfl) (fun _ _ _ _ h => h) rfl rfl rfl rfl rfl <| ga_nu (i := 17) (bz 28 262143) rfl (by kernel_rfl) (fun _ _ _ _ h => h) rfl rfl rfl rfl rfl <| ga_nu (i := 18) (bz 28 524287) rfl (by kernel_rfl) (fun _ _ _ _ h => h) rfl rfl rfl rfl rfl <| ga_nu (i := 19) (bz 28 1048575) rfl (by kernel_rfl) (fun _ _ _ _ h => h) rfl rfl rfl rfl rfl <| ga_nu (i := 20) (bz 28 2097151) rfl (by kernel_rfl) (fun _ _ _ _ h => h) rfl rfl rfl rfl rfl <| ga_nu (i := 21) (bz 28 4194303) rfl (by kernel_rfl) (fun _ _ _ _ h => h) rfl rfl rfl rfl rfl <| ga_nu (i := 22) (bz 28 8388607) rfl (by kernel_rfl) (fun _ _ _ _ h => h) rfl rfl rfl rfl rfl ?_
     refine ga_nu (i := 23) (bz 28 16777215) rfl (by kernel_rfl) (fun _ _ _ _ h => h) rfl rfl rfl rfl rfl <| ga_nu (i := 24) (bz 28 33554431) rfl (by kernel_rfl) (fun _ _ _ _ h => h) rfl rfl rfl rfl rfl <| ga_nu (i := 25) (bz 28 67108863) rfl (by kernel_rfl) (fun _ _ _ _ h => h) rfl rfl rfl rfl rfl <| ga_no (i := 26) (bz 28 134217727) rfl (by kernel_rfl) (fun _ _ _ _ h => h) rfl rfl rfl rfl rfl h237 <| ga_r (i := 27) (bz 28 268435455) rfl (by kernel_rfl) (by decide) rfl (r_pick1 rfl h237) <| ga_done (by kernel_rfl) <| d_then ?_
     refine c_flat [(0, .slice Ap0_0 p0.length cp0_0), (3, .int .i64 i127), (37, .bool true)] ⟨rfl, rfl, rfl, trivial⟩ (fun u => ?_)
     refine c_cond1 rfl rfl <| c_seq <| c_region <| g_v rfl r_assign <| g_nil <| d_then <| c_ret <| d_ret_block <| d_ret_then <| d_ret_then ?_
     refine d_ret_block <| d_ret_then <| d_ret_then ?_
     replace hm := nx_out (C := (fun e : Unit ⊕ Bool => Sum.elim (fun e => m_ref11_Right_j1 p0) (fun x => some x) e = some r)) hm hnx2 hr2
     replace hm : some false = some r := hm
     replace hm := Option.some.inj hm
     subst hm
     refine d_retC () Try.results34 ?_ trivial (fun W h => ok_pre (H1 := []) (R1 := []) h (fun W hφ => hφ)) (.inr rfl)
     refine res_tmp <| res_nil ?_
     exact rfl
    ·
     replace hm := ite_f hm (of_decide_eq_false h237)
     refine ga_rG (i := 13) (bz 28 16383) rfl (by kernel_rfl) (by decide) rfl rfl rfl rfl rfl h237 (r_move) <| ga_rG (i := 14) (bz 28 32767) rfl (by kernel_rfl) (by decide) rfl rfl rfl rfl rfl h237 (r_gtr rfl rfl) <| ga_rG (i := 15) (bz 28 65535) rfl (by kernel_rfl) (by decide) rfl rfl rfl rfl rfl h237 (r_move) ?_
     refine ga_if (t := 25) rfl (fun h238 => ?_) (fun h238 => ?_)
     ·
      replace hm := ite_t hm (of_decide_eq_true h238)
      refine ga_do (i := 16) (bz 28 131071) rfl (by kernel_rfl) (fun _ _ _ _ h => h) rfl rfl rfl rfl rfl h238 (r_move) <| ga_do (i := 17) (bz 28 262143) rfl (by kernel_rfl) (fun _ _ _ _ h => h) rfl rfl rfl rfl rfl h238 (r_move) ?_
      replace hm := bnd hm
      obtain ⟨x239, hx239, hm⟩ := hm
      refine ga_know _ (fun W hS => cl_at (p := (Sta.mk w0 M H R φ).ok) (sz := 1) (fun _ => rfl) (by decide) (ok_pre (H1 := []) (R1 := []) hS (fun W h => h)) fp0_0 hx239) ?_
      rintro ⟨ad240, hA242, f241⟩
      refine ga_do (i := 18) (bz 28 524287) rfl (by kernel_rfl) (fun _ _ _ _ h => h) rfl rfl rfl rfl rfl h238 (r_ix Try.underlying23 Try.sizeOf3 rfl hA242 rfl hx239) <| ga_do (i := 19) (bz 28 1048575) rfl (by kernel_rfl) (fun _ _ _ _ h => h) rfl rfl rfl rfl rfl h238 (r_ld rfl Try.isAgg3 (fun W hS => Cl.head (f241 W (ok_pre (H1 := []) (R1 := []) hS (fun W h => h))))) <| ga_do (i := 20) (bz 28 2097151) rfl (by kernel_rfl) (fun _ _ _ _ h => h) rfl rfl rfl rfl rfl h238 (r_move) <| ga_rG (i := 21) (bz 28 4194303) rfl (by kernel_rfl) (by decide) rfl rfl rfl rfl rfl h238 (r_move) <| ga_rG (i := 22) (bz 28 8388607) rfl (by kernel_rfl) (by decide) rfl rfl rfl rfl rfl h238 (r_sub rfl rfl rfl) ?_
      replace hm := bnd hm
      obtain ⟨x243, hx243, hm⟩ := hm
      refine ga_know _ (fun W hS => cl_at (p := (Sta.mk w0 M H R φ).ok) (sz := 1) (fun _ => rfl) (by decide) (ok_pre (H1 := []) (R1 := []) hS (fun W h => h)) fp0_0 hx243) ?_
      rintro ⟨ad244, hA246, f245⟩
      refine ga_rG (i := 23) (bz 28 16777215) rfl (by kernel_rfl) (by decide) rfl rfl rfl rfl rfl h238 (r_ix Try.underlying23 Try.sizeOf3 rfl hA246 rfl hx243) <| ga_rG (i := 24) (bz 28 33554431) rfl (by kernel_rfl) (by decide) rfl rfl rfl rfl rfl h238 (r_ld rfl Try.isAgg3 (fun W hS => Cl.head (f245 W (ok_pre (H1 := []) (R1 := []) hS (fun W h => h))))) <| ga_rG (i := 25) (bz 28 67108863) rfl (by kernel_rfl) (by decide) rfl rfl rfl rfl rfl h238 (r_leq rfl rfl) <| ga_rG (i := 26) (bz 28 134217727) rfl (by kernel_rfl) (by decide) rfl rfl rfl rfl rfl h237 (r_pick1 rfl h238) <| ga_r (i := 27) (bz 28 268435455) rfl (by kernel_rfl) (by decide) rfl (r_pick0 rfl h237) <| ga_done (by kernel_rfl) <| d_then ?_
      refine c_flat [(0, .slice Ap0_0 p0.length cp0_0), (3, .int .i64 i127), (37, .bool (decide (x239 ≤ x243)))] ⟨rfl, rfl, rfl, trivial⟩ (fun u => ?_)
      refine c_cond rfl (fun h247 => ?_) (fun h247 => ?_)
      ·
       replace hm := ite_t hm (of_decide_eq_true h247)
       refine c_seq <| c_region <| g_v rfl r_assign <| g_nil <| d_then <| c_ret <| d_ret_block <| d_ret_then <| d_ret_then <| d_ret_block ?_
       refine d_ret_then <| d_ret_then ?_
       replace hm := nx_out (C := (fun e : Unit ⊕ Bool => Sum.elim (fun e => m_ref11_Right_j1 p0) (fun x => some x) e = some r)) hm hnx2 hr2
       replace hm : some false = some r := hm
       replace hm := Option.some.inj hm
       subst hm
       refine d_retC () Try.results34 ?_ trivial (fun W h => ok_pre (H1 := []) (R1 := []) h (fun W hφ => hφ)) (.inr rfl)
       refine res_tmp <| res_nil ?_
       exact rfl
      ·
       replace hm := ite_f hm (of_decide_eq_false h247)
       refine c_skip <| d_normal_block <| d_then <| c_region <| g_v rfl r_move <| g_v rfl (r_add rfl rfl rfl) <| g_v rfl r_assign <| g_nil ?_
       obtain ⟨n248, hn248, hlp⟩ := nx_inl hm hnx2
       exact d_round (n248, w64 (i127 + 1)) hlp hn248 ⟨rfl, rfl, trivial⟩ (fun W h => h.phi (fun W hφ => hφ))
     ·
      replace hm := ite_f hm (of_decide_eq_false h238)
      refine ga_no (i := 16) (bz 28 131071) rfl (by kernel_rfl) (fun _ _ _ _ h => h) rfl rfl rfl rfl rfl h238 <| ga_no (i := 17) (bz 28 262143) rfl (by kernel_rfl) (fun _ _ _ _ h => h) rfl rfl rfl rfl rfl h238 <| ga_no (i := 18) (bz 28 524287) rfl (by kernel_rfl) (fun _ _ _ _ h => h) rfl rfl rfl rfl rfl h238 <| ga_no (i := 19) (bz 28 1048575) rfl (by kernel_rfl) (fun _ _ _ _ h => h) rfl rfl rfl rfl rfl h238 <| ga_no (i := 20) (bz 28 2097151) rfl (by kernel_rfl) (fun _ _ _ _ h => h) rfl rfl rfl rfl rfl h238 <| ga_no (i := 21) (bz 28 4194303) rfl (by kernel_rfl) (fun _ _ _ _ h => h) rfl rfl rfl rfl rfl h238 <| ga_no (i := 22) (bz 28 8388607) rfl (by kernel_rfl) (fun _ _ _ _ h => h) rfl rfl rfl rfl rfl h238 <| ga_no (i := 23) (bz 28 16777215) rfl (by kernel_rfl) (fun _ _ _ _ h => h) rfl rfl rfl rfl rfl h238 <| ga_no (i := 24) (bz 28 33554431) rfl (by kernel_rfl) (fun _ _ _ _ h => h) rfl rfl rfl rfl rfl h238 <| ga_no (i := 25) (bz 28 67108863) rfl (by kernel_rfl) (fun _ _ _ _ h => h) rfl rfl rfl rfl rfl h238 ?_
      refine ga_rG (i := 26) (bz 28 134217727) rfl (by kernel_rfl) (by decide) rfl rfl rfl rfl rfl h237 (r_pick0 rfl h238) <| ga_r (i := 27) (bz 28 268435455) rfl (by kernel_rfl) (by decide) rfl (r_pick0 rfl h237) <| ga_done (by kernel_rfl) <| d_then ?_
      refine c_flat [(0, .slice Ap0_0 p0.length cp0_0), (3, .int .i64 i127), (37, .bool false)] ⟨rfl, rfl, rfl, trivial⟩ (fun u => ?_)
      refine c_cond0 rfl rfl <| c_skip <| d_normal_block <| d_then <| c_region <| g_v rfl r_move <| g_v rfl (r_add rfl rfl rfl) <| g_v rfl r_assign <| g_nil ?_
      obtain ⟨n249, hn249, hlp⟩ := nx_inl hm hnx2
      exact d_round (n249, w64 (i127 + 1)) hlp hn249 ⟨rfl, rfl, trivial⟩ (fun W h => h.phi (fun W hφ => hφ))
  ·
   replace hm := ite_f hm (of_decide_eq_false h189)
   refine c_exit <| d_exit_then <| d_exit_then <| d_exit_block ?_
   replace hm := nx_out (C := (fun e : Unit ⊕ Bool => Sum.elim (fun e => m_ref11_Right_j1 p0) (fun x => some x) e = some r)) hm hnx2 hr2
   exact d_round () hm Nat.zero_lt_one ⟨rfl, trivial⟩ (fun W h => h.phi (fun W hφ => hφ))
 ·
  unfold m_ref11_Right_j1 at hm
  refine d_flat [(0, .slice Ap0_0 p0.length cp0_0)] ⟨rfl, trivial⟩ (fun u => ?_)
  refine d_sta ⟨w0, M, H, R, φ⟩ (fun _ h => h) <| d_then <| c_seq <| c_region <| g_v rfl r_move <| g_v rfl (r_lenL Try.underlying23 rfl) <| g_v rfl (r_gtr rfl rfl) <| g_v rfl r_assign <| g_nil <| d_then ?_
  refine c_ret ?_
  replace hm := Option.some.inj hm
  subst hm
  refine d_retC () Try.results34 ?_ trivial (fun W h => ok_pre (H1 := []) (R1 := []) h (fun W hφ => hφ)) (.inr rfl)
  refine res_tmp <| res_nil ?_
  exact rfl
end Go.Proofs.Ytoglbdaagfoddaa
