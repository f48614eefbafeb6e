import Derived.Test.YtoglbdaagfoddaaQL
import Derived.Test.YtoglbdaagfoddaaSV
import Derived.Test.YtoglbdaagfoddaaSE
import Derived.Test.YtoglbdaagfoddaaSL
import Derived.Test.YtoglbdaagfoddaaSS
set_option maxRecDepth 100000
set_option maxHeartbeats 4000000
set_option linter.unusedVariables false
set_option linter.unusedSimpArgs false
namespace Go.Proofs.Ytoglbdaagfoddaa
open Go.RowKit Go.Proofs.YtoglbdaagfoddaaW.PrintLast
structure Glaw12_Act where
  fKind : Int
  fA : Int
  fB : Int
  fPick : Int
  fTimeout : Int
  deriving DecidableEq
def Glaw12_Act.enc (e : Glaw12_Act) : List Value := [.int .i64 e.fKind, .int .i64 e.fA, .int .i64 e.fB, .int .i64 e.fPick, .int .i64 e.fTimeout]
structure Garray33 where
  a0 : Int
  a1 : Int
  deriving DecidableEq
def Garray33.enc (e : Garray33) : List Value := [.int .i64 e.a0, .int .i64 e.a1]
structure GEntry where
  fTerm : Int
  fKind : Int
  fData : ByteArray
  deriving DecidableEq
def GEntry.enc (e : GEntry) : List Value := [.int .i64 e.fTerm, .int .i64 e.fKind, .string e.fData]
structure GLog where
  fBase : Int
  fBaseTerm : Int
  fEntries : List GEntry
  deriving DecidableEq
structure GHard where
  fTerm : Int
  fVote : Int
  fVoters : List Int
  fSnap : ByteArray
  fLog : GLog
  deriving DecidableEq
structure GMark where
  fNode : Int
  fNext : Int
  fMatch : Int
  deriving DecidableEq
def GMark.enc (e : GMark) : List Value := [.int .i64 e.fNode, .int .i64 e.fNext, .int .i64 e.fMatch]
structure GRaft where
  fMe : Int
  fRole : Int
  fLeader : Int
  fCommit : Int
  fLeft : Int
  fHard : GHard
  fVotes : List Int
  fMarks : List GMark
  deriving DecidableEq
theorem lit3_0 (z0 : Int) : Try.prog.builtSlice 3 1 [(0, .int .i64 z0)] = some #[.int .i64 z0] := by kernel_rfl
theorem bld40_1 (zA0 : Option Addr) (zn0 : Nat) (zc0 : Nat) : ∀ W, (Instr.build 40 #[(2, .slice zA0 zn0 zc0)]).run Try.prog W = .ok (.agg #[.int .i64 0, .int .i64 0, .slice zA0 zn0 zc0, .string (⟨#[]⟩ : ByteArray), .int .i64 0, .int .i64 0, .slice none 0 0]) W := fun _ => by kernel_rfl
noncomputable def m_plog_Last (p0 : GLog) : Option Int :=
  some (w64 (p0.fBase + (p0.fEntries.length : Int)))
theorem c_plog_Last {w0 : World} {M : Nat → Prop} {H : List (Nat × Nat × Obj)} {R : List (Nat × Row)} {φ : World → Prop} (p0 : GLog) (Ap0_0 : Option Addr) (cp0_0 : Nat) (hcp0_0 : p0.fEntries.length ≤ cp0_0) (fp0_0 : ∀ W, (Sta.mk w0 M H R φ).ok W → Cl W Ap0_0 (p0.fEntries.flatMap GEntry.enc)) (r : Int) (hm : m_plog_Last p0 = some r) :
    Cn Try.prog 21 #[.agg #[.int .i64 p0.fBase, .int .i64 p0.fBaseTerm, .slice Ap0_0 p0.fEntries.length cp0_0]] ⟨w0, M, H, R, φ⟩ (fun x : Unit => .int .i64 r) (fun x => True) (fun x => ⟨w0, M, H, R, φ⟩) := by
 unfold m_plog_Last at hm
 refine cn_intro (fn := Try.f21) (N := 9) Try.func21 rfl Try.ntmps21 rfl <| c_seq <| c_region ?_
 refine g_e rfl (e_box 100010 rfl) (fun g1 _ => ?_)
 refine g_v rfl r_assign <| g_nil <| d_then <| c_seq <| c_region <| g_v rfl (r_field (n := 0) Try.underlying38 rfl Try.sizeOf3 rfl rfl) <| g_v rfl (r_load (tag := 100010) rfl rfl rfl Try.isAgg3) <| g_v rfl (r_field (n := 2) Try.underlying38 rfl Try.sizeOf22 rfl rfl) <| g_v rfl (r_load (tag := 100010) rfl rfl rfl Try.isAgg22) <| g_v rfl (r_lenL Try.underlying22 rfl) ?_
 refine g_v rfl (r_add rfl rfl rfl) <| g_v rfl r_assign <| g_nil <| d_then ?_
 refine c_flat [(2, .int .i64 (w64 (p0.fBase + (p0.fEntries.length : Int))))] ⟨rfl, trivial⟩ (fun u => ?_)
 refine c_sta ⟨w0, M, (100010, g1, .cells #[.int .i64 p0.fBase, .int .i64 p0.fBaseTerm, .slice Ap0_0 p0.fEntries.length cp0_0] 38 (0, 0)) :: H, R, φ⟩ (fun _ h => h) <| c_ret ?_
 cases hm
 exact d_retC () Try.results21 (res_tmp (res_nil rfl)) trivial (fun W h => ok_pre (H1 := [_]) (R1 := []) h (fun W hφ => hφ)) (.inr rfl)
theorem bld43_2 (z0 : Int) (z1 : Int) (z2 : Int) (z3 : Int) (z4 : Int) (zA5 : Option Addr) (zn5 : Nat) (zc5 : Nat) (z6 : ByteArray) (z7 : Int) (z8 : Int) (zA9 : Option Addr) (zn9 : Nat) (zc9 : Nat) : ∀ W, (Instr.build 43 #[(0, .int .i64 z0), (3, .int .i64 z1), (4, .int .i64 z2), (5, .agg #[.int .i64 z3, .int .i64 z4, .slice zA5 zn5 zc5, .string z6, .int .i64 z7, .int .i64 z8, .slice zA9 zn9 zc9])]).run Try.prog W = .ok (.agg #[.int .i64 z0, .int .i64 0, .int .i64 0, .int .i64 z1, .int .i64 z2, .int .i64 z3, .int .i64 z4, .slice zA5 zn5 zc5, .string z6, .int .i64 z7, .int .i64 z8, .slice zA9 zn9 zc9, .slice none 0 0, .slice none 0 0]) W := fun _ => by kernel_rfl
noncomputable def m_raft_New (p0 : Int) (p1 : GHard) (p2 : Int) : Option GRaft :=
  (m_plog_Last p1.fLog).bind fun x7 =>
  some (⟨p0, 0, 0, (max p1.fLog.fBase (min p2 x7)), 1, p1, ([] : List Int), ([] : List GMark)⟩ : GRaft)
theorem c_raft_New {w0 : World} {M : Nat → Prop} {H : List (Nat × Nat × Obj)} {R : List (Nat × Row)} {φ : World → Prop} (p0 : Int) (p1 : GHard) (Ap1_0 : Option Addr) (cp1_0 : Nat) (hcp1_0 : p1.fVoters.length ≤ cp1_0) (fp1_0 : ∀ W, φ W → Cl W Ap1_0 (p1.fVoters.flatMap (fun x : Int => [Value.int .i64 x]))) (Ap1_1 : Option Addr) (cp1_1 : Nat) (hcp1_1 : p1.fLog.fEntries.length ≤ cp1_1) (fp1_1 : ∀ W, φ W → Cl W Ap1_1 (p1.fLog.fEntries.flatMap GEntry.enc)) (p2 : Int) (r : GRaft) (hm : m_raft_New p0 p1 p2 = some r) :
    Cn Try.prog 16 #[.int .i64 p0, .agg #[.int .i64 p1.fTerm, .int .i64 p1.fVote, .slice Ap1_0 p1.fVoters.length cp1_0, .string p1.fSnap, .int .i64 p1.fLog.fBase, .int .i64 p1.fLog.fBaseTerm, .slice Ap1_1 p1.fLog.fEntries.length cp1_1], .int .i64 p2] ⟨w0, M, H, R, φ⟩ (fun x : Option Addr × Nat × Option Addr × Nat × Option Addr × Nat × Option Addr × Nat => .agg #[.int .i64 r.fMe, .int .i64 r.fRole, .int .i64 r.fLeader, .int .i64 r.fCommit, .int .i64 r.fLeft, .int .i64 r.fHard.fTerm, .int .i64 r.fHard.fVote, .slice x.1 r.fHard.fVoters.length x.2.1, .string r.fHard.fSnap, .int .i64 r.fHard.fLog.fBase, .int .i64 r.fHard.fLog.fBaseTerm, .slice x.2.2.1 r.fHard.fLog.fEntries.length x.2.2.2.1, .slice x.2.2.2.2.1 r.fVotes.length x.2.2.2.2.2.1, .slice x.2.2.2.2.2.2.1 r.fMarks.length x.2.2.2.2.2.2.2]) (fun x => r.fHard.fVoters.length ≤ x.2.1 ∧ r.fHard.fLog.fEntries.length ≤ x.2.2.2.1 ∧ r.fVotes.length ≤ x.2.2.2.2.2.1 ∧ r.fMarks.length ≤ x.2.2.2.2.2.2.2) (fun x => ⟨w0, M, H, R, fun W => φ W ∧ Cl W x.1 (r.fHard.fVoters.flatMap (fun x : Int => [Value.int .i64 x])) ∧ Cl W x.2.2.1 (r.fHard.fLog.fEntries.flatMap GEntry.enc) ∧ Cl W x.2.2.2.2.1 (r.fVotes.flatMap (fun x : Int => [Value.int .i64 x])) ∧ Cl W x.2.2.2.2.2.2.1 (r.fMarks.flatMap GMark.enc)⟩) := by
 unfold m_raft_New at hm
 refine cn_intro (fn := Try.f16) (N := 19) Try.func16 rfl Try.ntmps16 rfl <| c_seq <| c_region ?_
 refine g_e rfl (e_box 100040 rfl) (fun g1 _ => ?_)
 refine g_e rfl (e_alloc 100060 Try.zeroValue43) (fun g2 _ => ?_)
 refine g_nil <| d_then <| c_seq <| ga_start (n := 13) ⟨w0, M, (100060, g2, .cells #[.int .i64 0, .int .i64 0, .int .i64 0, .int .i64 0, .int .i64 0, .int .i64 0, .int .i64 0, .slice none 0 0, .string (⟨#[]⟩ : ByteArray), .int .i64 0, .int .i64 0, .slice none 0 0, .slice none 0 0, .slice none 0 0] 43 (0, 0)) :: (100040, g1, .cells #[.int .i64 p1.fTerm, .int .i64 p1.fVote, .slice Ap1_0 p1.fVoters.length cp1_0, .string p1.fSnap, .int .i64 p1.fLog.fBase, .int .i64 p1.fLog.fBaseTerm, .slice Ap1_1 p1.fLog.fEntries.length cp1_1] 40 (0, 0)) :: H, R, φ⟩ [12] #[false, false, false, false, false, false, false, false, false, false, false, false, false] (fun W h => h.phi (fun W hφ => hφ)) mixed rfl rfl <| ga_v (i := 0) (bz 13 1) rfl (by kernel_rfl) (fun _ _ _ _ h => h) rfl (r_move) <| ga_v (i := 1) (bz 13 3) rfl (by kernel_rfl) (fun _ _ _ _ h => h) rfl (r_field (n := 4) Try.underlying40 rfl Try.sizeOf38 rfl rfl) <| ga_v (i := 2) (bz 13 7) rfl (by kernel_rfl) (fun _ _ _ _ h => h) rfl (r_field (n := 4) Try.underlying38 rfl Try.sizeOf3 rfl rfl) <| ga_v (i := 3) (bz 13 15) rfl (by kernel_rfl) (fun _ _ _ _ h => h) rfl (r_load (tag := 100040) rfl rfl rfl Try.isAgg3) <| ga_v (i := 4) (bz 13 31) rfl (by kernel_rfl) (fun _ _ _ _ h => h) rfl (r_move) <| ga_v (i := 5) (bz 13 63) rfl (by kernel_rfl) (fun _ _ _ _ h => h) rfl (r_field (n := 4) Try.underlying40 rfl Try.sizeOf38 rfl rfl) ?_
 refine ga_v (i := 6) (bz 13 127) rfl (by kernel_rfl) (fun _ _ _ _ h => h) rfl (r_loadA (tag := 100040) rfl rfl Try.isAgg38 Try.sizeOf38 rfl rfl) <| ga_v (i := 10) (bz 13 1151) rfl (by kernel_rfl) (fun _ _ _ _ h => h) rfl (r_loadA (tag := 100040) rfl rfl Try.isAgg40 Try.sizeOf40 rfl rfl) ?_
 replace hm := bnd hm
 obtain ⟨x7, hx8, hm⟩ := hm
 refine ga_cn (first := #[]) (i := 7) (bz 13 1279) rfl (by kernel_rfl) (by decide)  ⟨w0, M, _, _, φ⟩ (fun _ h => h) Try.call21 rfl rfl rfl (c_plog_Last p1.fLog Ap1_1 cp1_1 hcp1_1 (fun W hS => fp1_1 W hS.now) _ hx8) (fun _ W _ h => h.phi (fun W hφ => hφ)) (fun _ _ => ?_)
 refine ga_r (i := 8) (bz 13 1535) rfl (by kernel_rfl) (by decide) rfl (r_min rfl rfl) <| ga_r (i := 9) (bz 13 2047) rfl (by kernel_rfl) (by decide) rfl (r_max rfl rfl) <| ga_r (i := 11) (bz 13 4095) rfl (by kernel_rfl) (by decide) rfl (r_build _ rfl (bld43_2 _ _ _ _ _ _ _ _ _ _ _ _ _ _)) <| ga_lastL (i := 12) (tag := 100060) (bz 13 8191) rfl (by kernel_rfl) (by decide) rfl rfl rfl rfl Try.sizeOf43 rfl rfl <| gz_done (by kernel_rfl) <| d_then ?_
 refine c_flat [(6, .pointer (some ⟨g2, 0, none⟩))] ⟨rfl, trivial⟩ (fun u => ?_)
 refine c_sta ⟨w0, M, (100060, g2, .cells #[.int .i64 p0, .int .i64 0, .int .i64 0, .int .i64 (max p1.fLog.fBase (min p2 x7)), .int .i64 1, .int .i64 p1.fTerm, .int .i64 p1.fVote, .slice Ap1_0 p1.fVoters.length cp1_0, .string p1.fSnap, .int .i64 p1.fLog.fBase, .int .i64 p1.fLog.fBaseTerm, .slice Ap1_1 p1.fLog.fEntries.length cp1_1, .slice none 0 0, .slice none 0 0] 43 (0, 0)) :: (100040, g1, .cells #[.int .i64 p1.fTerm, .int .i64 p1.fVote, .slice Ap1_0 p1.fVoters.length cp1_0, .string p1.fSnap, .int .i64 p1.fLog.fBase, .int .i64 p1.fLog.fBaseTerm, .slice Ap1_1 p1.fLog.fEntries.length cp1_1] 40 (0, 0)) :: H, R, φ⟩ (fun _ h => h) <| c_ret ?_
 cases hm
 exact d_retC (Ap1_0, cp1_0, Ap1_1, cp1_1, none, 0, none, 0) Try.results16 (res_agg (tag := 100060) rfl rfl Try.isAgg43 Try.sizeOf43 (res_nil rfl)) ⟨hcp1_0, hcp1_1, (Nat.le_refl 0), (Nat.le_refl 0)⟩ (fun W h => ok_pre (H1 := [_, _]) (R1 := []) h (fun W hφ => ⟨hφ, (fun W h => fp1_0 W h) W hφ, (fun W h => fp1_1 W h) W hφ, (fun W _ => Cl.nil _ _) W hφ, (fun W _ => Cl.nil _ _) W hφ⟩)) (.inr rfl)
structure GNote where
  fKind : Int
  fFrom : Int
  fTo : Int
  fTerm : Int
  fIndex : Int
  fLogTerm : Int
  fCommit : Int
  fGood : Bool
  fEntries : List GEntry
  fVoters : List Int
  fSnap : ByteArray
  deriving DecidableEq
structure GNoteP where
  pA0 : Option Addr
  pC0 : Nat
  pA1 : Option Addr
  pC1 : Nat
def GNote.encP (z : GNote × GNoteP) : List Value := [.int .i64 z.1.fKind, .int .i64 z.1.fFrom, .int .i64 z.1.fTo, .int .i64 z.1.fTerm, .int .i64 z.1.fIndex, .int .i64 z.1.fLogTerm, .int .i64 z.1.fCommit, .bool z.1.fGood, .slice z.2.pA0 z.1.fEntries.length z.2.pC0, .slice z.2.pA1 z.1.fVoters.length z.2.pC1, .string z.1.fSnap]
abbrev GNote.capP (z : GNote × GNoteP) : Prop := z.1.fEntries.length ≤ z.2.pC0 ∧ z.1.fVoters.length ≤ z.2.pC1
abbrev GNote.ownP (W : World) (z : GNote × GNoteP) : Prop := Cl W z.2.pA0 (z.1.fEntries.flatMap GEntry.enc) ∧ Cl W z.2.pA1 (z.1.fVoters.flatMap (fun x : Int => [Value.int .i64 x]))
structure Graft_state where
  fRaft : GRaft
  deriving DecidableEq
theorem bld84_3 (z0 : Int) (z1 : Int) (z2 : Int) (z3 : Int) (z4 : Int) (z5 : Int) (z6 : Int) (zA7 : Option Addr) (zn7 : Nat) (zc7 : Nat) (z8 : ByteArray) (z9 : Int) (z10 : Int) (zA11 : Option Addr) (zn11 : Nat) (zc11 : Nat) (zA12 : Option Addr) (zn12 : Nat) (zc12 : Nat) (zA13 : Option Addr) (zn13 : Nat) (zc13 : Nat) : ∀ W, (Instr.build 84 #[(0, .agg #[.int .i64 z0, .int .i64 z1, .int .i64 z2, .int .i64 z3, .int .i64 z4, .int .i64 z5, .int .i64 z6, .slice zA7 zn7 zc7, .string z8, .int .i64 z9, .int .i64 z10, .slice zA11 zn11 zc11, .slice zA12 zn12 zc12, .slice zA13 zn13 zc13])]).run Try.prog W = .ok (.agg #[.int .i64 z0, .int .i64 z1, .int .i64 z2, .int .i64 z3, .int .i64 z4, .int .i64 z5, .int .i64 z6, .slice zA7 zn7 zc7, .string z8, .int .i64 z9, .int .i64 z10, .slice zA11 zn11 zc11, .slice zA12 zn12 zc12, .slice zA13 zn13 zc13]) W := fun _ => by kernel_rfl
theorem bld25_4 (z0 : Int) (z1 : Int) (z2 : Int) (z3 : Int) : ∀ W, (Instr.build 25 #[(0, .int .i64 z0), (1, .int .i64 z1), (2, .int .i64 z2), (3, .int .i64 z3)]).run Try.prog W = .ok (.agg #[.int .i64 z0, .int .i64 z1, .int .i64 z2, .int .i64 z3, .int .i64 0, .int .i64 0, .int .i64 0, .bool false, .slice none 0 0, .slice none 0 0, .string (⟨#[]⟩ : ByteArray)]) W := fun _ => by kernel_rfl
noncomputable def m_raft_state_note (p0 : Graft_state) (p1 : Int) (p2 : Int) : Option GNote :=
  some (⟨p1, p0.fRaft.fMe, p2, p0.fRaft.fHard.fTerm, 0, 0, 0, false, ([] : List GEntry), ([] : List Int), (⟨#[]⟩ : ByteArray)⟩ : GNote)
theorem c_raft_state_note {w0 : World} {M : Nat → Prop} {H : List (Nat × Nat × Obj)} {R : List (Nat × Row)} {φ : World → Prop} (p0 : Graft_state) (Ap0_0 : Option Addr) (cp0_0 : Nat) (hcp0_0 : p0.fRaft.fHard.fVoters.length ≤ cp0_0) (fp0_0 : ∀ W, (Sta.mk w0 M H R φ).ok W → Cl W Ap0_0 (p0.fRaft.fHard.fVoters.flatMap (fun x : Int => [Value.int .i64 x]))) (Ap0_1 : Option Addr) (cp0_1 : Nat) (hcp0_1 : p0.fRaft.fHard.fLog.fEntries.length ≤ cp0_1) (fp0_1 : ∀ W, (Sta.mk w0 M H R φ).ok W → Cl W Ap0_1 (p0.fRaft.fHard.fLog.fEntries.flatMap GEntry.enc)) (Ap0_2 : Option Addr) (cp0_2 : Nat) (hcp0_2 : p0.fRaft.fVotes.length ≤ cp0_2) (fp0_2 : ∀ W, (Sta.mk w0 M H R φ).ok W → Cl W Ap0_2 (p0.fRaft.fVotes.flatMap (fun x : Int => [Value.int .i64 x]))) (Ap0_3 : Option Addr) (cp0_3 : Nat) (hcp0_3 : p0.fRaft.fMarks.length ≤ cp0_3) (fp0_3 : ∀ W, (Sta.mk w0 M H R φ).ok W → Cl W Ap0_3 (p0.fRaft.fMarks.flatMap GMark.enc)) (p1 : Int) (p2 : Int) (r : GNote) (hm : m_raft_state_note p0 p1 p2 = some r) :
    Cn Try.prog 65 #[.agg #[.int .i64 p0.fRaft.fMe, .int .i64 p0.fRaft.fRole, .int .i64 p0.fRaft.fLeader, .int .i64 p0.fRaft.fCommit, .int .i64 p0.fRaft.fLeft, .int .i64 p0.fRaft.fHard.fTerm, .int .i64 p0.fRaft.fHard.fVote, .slice Ap0_0 p0.fRaft.fHard.fVoters.length cp0_0, .string p0.fRaft.fHard.fSnap, .int .i64 p0.fRaft.fHard.fLog.fBase, .int .i64 p0.fRaft.fHard.fLog.fBaseTerm, .slice Ap0_1 p0.fRaft.fHard.fLog.fEntries.length cp0_1, .slice Ap0_2 p0.fRaft.fVotes.length cp0_2, .slice Ap0_3 p0.fRaft.fMarks.length cp0_3], .int .i64 p1, .int .i64 p2] ⟨w0, M, H, R, φ⟩ (fun x : Option Addr × Nat × Option Addr × Nat => .agg #[.int .i64 r.fKind, .int .i64 r.fFrom, .int .i64 r.fTo, .int .i64 r.fTerm, .int .i64 r.fIndex, .int .i64 r.fLogTerm, .int .i64 r.fCommit, .bool r.fGood, .slice x.1 r.fEntries.length x.2.1, .slice x.2.2.1 r.fVoters.length x.2.2.2, .string r.fSnap]) (fun x => r.fEntries.length ≤ x.2.1 ∧ r.fVoters.length ≤ x.2.2.2) (fun x => ⟨w0, M, H, R, fun W => φ W ∧ Cl W x.1 (r.fEntries.flatMap GEntry.enc) ∧ Cl W x.2.2.1 (r.fVoters.flatMap (fun x : Int => [Value.int .i64 x]))⟩) := by
 unfold m_raft_state_note at hm
 refine cn_intro (fn := Try.f65) (N := 17) Try.func65 rfl Try.ntmps65 rfl <| c_seq <| c_region ?_
 refine g_e rfl (e_box 100030 rfl) (fun g1 _ => ?_)
 refine g_e rfl (e_alloc 100060 Try.zeroValue25) (fun g2 _ => ?_)
 refine g_nil <| d_then <| c_seq <| c_region <| g_v rfl r_move <| g_v rfl (r_field (n := 0) Try.underlying84 rfl Try.sizeOf43 rfl rfl) <| g_v rfl (r_field (n := 0) Try.underlying43 rfl Try.sizeOf3 rfl rfl) <| g_v rfl (r_load (tag := 100030) rfl rfl rfl Try.isAgg3) <| g_v rfl r_move <| g_v rfl (r_field (n := 0) Try.underlying84 rfl Try.sizeOf43 rfl rfl) ?_
 refine g_v rfl (r_field (n := 5) Try.underlying43 rfl Try.sizeOf40 rfl rfl) <| g_v rfl (r_field (n := 5) Try.underlying40 rfl Try.sizeOf3 rfl rfl) <| g_v rfl (r_load (tag := 100030) rfl rfl rfl Try.isAgg3) <| g_v rfl (r_build _ rfl (bld25_4 _ _ _ _)) <| g_storeL (tag := 100060) rfl rfl rfl rfl Try.sizeOf25 rfl rfl <| g_nil <| d_then ?_
 refine c_flat [(6, .pointer (some ⟨g2, 0, none⟩))] ⟨rfl, trivial⟩ (fun u => ?_)
 refine c_sta ⟨w0, M, (100060, g2, .cells #[.int .i64 p1, .int .i64 p0.fRaft.fMe, .int .i64 p2, .int .i64 p0.fRaft.fHard.fTerm, .int .i64 0, .int .i64 0, .int .i64 0, .bool false, .slice none 0 0, .slice none 0 0, .string (⟨#[]⟩ : ByteArray)] 25 (0, 0)) :: (100030, g1, .cells #[.int .i64 p0.fRaft.fMe, .int .i64 p0.fRaft.fRole, .int .i64 p0.fRaft.fLeader, .int .i64 p0.fRaft.fCommit, .int .i64 p0.fRaft.fLeft, .int .i64 p0.fRaft.fHard.fTerm, .int .i64 p0.fRaft.fHard.fVote, .slice Ap0_0 p0.fRaft.fHard.fVoters.length cp0_0, .string p0.fRaft.fHard.fSnap, .int .i64 p0.fRaft.fHard.fLog.fBase, .int .i64 p0.fRaft.fHard.fLog.fBaseTerm, .slice Ap0_1 p0.fRaft.fHard.fLog.fEntries.length cp0_1, .slice Ap0_2 p0.fRaft.fVotes.length cp0_2, .slice Ap0_3 p0.fRaft.fMarks.length cp0_3] 84 (0, 0)) :: H, R, φ⟩ (fun _ h => h) <| c_ret ?_
 cases hm
 exact d_retC (none, 0, none, 0) Try.results65 (res_agg (tag := 100060) rfl rfl Try.isAgg25 Try.sizeOf25 (res_nil rfl)) ⟨(Nat.le_refl 0), (Nat.le_refl 0)⟩ (fun W h => ok_pre (H1 := [_, _]) (R1 := []) h (fun W hφ => ⟨hφ, (fun W _ => Cl.nil _ _) W hφ, (fun W _ => Cl.nil _ _) W hφ⟩)) (.inr rfl)
theorem bld36_5  : ∀ W, (Instr.build 36 #[]).run Try.prog W = .ok (.agg #[.int .i64 0, .int .i64 0, .string (⟨#[]⟩ : ByteArray)]) W := fun _ => by kernel_rfl
noncomputable def m_plog_Get (p0 : GLog) (p1 : Int) : Option (GEntry × Bool) :=
  if p1 ≤ p0.fBase then
    some ((⟨0, 0, (⟨#[]⟩ : ByteArray)⟩ : GEntry), false)
  else
    (m_plog_Last p0).bind fun x4 =>
    if x4 < p1 then
      some ((⟨0, 0, (⟨#[]⟩ : ByteArray)⟩ : GEntry), false)
    else
      (at_ p0.fEntries (w64 ((w64 (p1 - p0.fBase)) - 1))).bind fun x7 =>
      some (x7, true)
theorem c_plog_Get {w0 : World} {M : Nat → Prop} {H : List (Nat × Nat × Obj)} {R : List (Nat × Row)} {φ : World → Prop} (p0 : GLog) (Ap0_0 : Option Addr) (cp0_0 : Nat) (hcp0_0 : p0.fEntries.length ≤ cp0_0) (fp0_0 : ∀ W, (Sta.mk w0 M H R φ).ok W → Cl W Ap0_0 (p0.fEntries.flatMap GEntry.enc)) (p1 : Int) (r : GEntry × Bool) (hm : m_plog_Get p0 p1 = some r) :
    Cn Try.prog 20 #[.agg #[.int .i64 p0.fBase, .int .i64 p0.fBaseTerm, .slice Ap0_0 p0.fEntries.length cp0_0], .int .i64 p1] ⟨w0, M, H, R, φ⟩ (fun x : Unit => .tuple #[.agg #[.int .i64 r.1.fTerm, .int .i64 r.1.fKind, .string r.1.fData], .bool r.2]) (fun x => True) (fun x => ⟨w0, M, H, R, φ⟩) := by
 unfold m_plog_Get at hm
 refine cn_intro (fn := Try.f20) (N := 26) Try.func20 rfl Try.ntmps20 rfl <| c_seq <| c_region ?_
 refine g_e rfl (e_box 100020 rfl) (fun g1 _ => ?_)
 refine g_e rfl (e_alloc 100040 Try.zeroValue36) (fun g2 _ => ?_)
 refine g_v rfl r_assign <| g_nil <| d_then <| c_seq <| c_seq <| c_region <| g_v rfl r_move <| g_v rfl (r_field (n := 0) Try.underlying38 rfl Try.sizeOf3 rfl rfl) <| g_v rfl (r_load (tag := 100020) rfl rfl rfl Try.isAgg3) <| g_v rfl (r_leq rfl rfl) ?_
 refine g_v rfl r_move <| g_sta ⟨w0, M, (100040, g2, .cells #[.int .i64 0, .int .i64 0, .string (⟨#[]⟩ : ByteArray)] 36 (0, 0)) :: (100020, g1, .cells #[.int .i64 p0.fBase, .int .i64 p0.fBaseTerm, .slice Ap0_0 p0.fEntries.length cp0_0] 38 (0, 0)) :: H, R, φ⟩ (fun _ h => h) ?_
 refine g_if rfl rfl rfl rfl rfl (fun h3 => ?_) (fun h3 => ?_)
 ·
  replace hm := ite_f hm (of_decide_eq_false h3)
  refine g_v rfl r_move <| g_do rfl rfl rfl rfl rfl h3 <| g_v rfl (r_loadA (tag := 100020) rfl rfl Try.isAgg38 Try.sizeOf38 rfl rfl) <| g_do rfl rfl rfl rfl rfl h3 ?_
  replace hm := bnd hm
  obtain ⟨x4, hx5, hm⟩ := hm
  refine g_cn ⟨w0, M, _, _, φ⟩ (fun _ h => h) Try.call21 rfl rfl (c_plog_Last p0 Ap0_0 cp0_0 hcp0_0 (fun W hS => fp0_0 W (ok_pre (H1 := [_, _]) (R1 := []) hS (fun W h => h))) _ hx5) (fun _ _ => ?_)
  refine g_do rfl rfl rfl rfl rfl h3 <| g_v rfl (r_gtr rfl rfl) <| g_v rfl (r_pick0 rfl h3) <| g_nil <| d_then ?_
  refine c_flat [(1, .int .i64 p1), (2, .pointer (some ⟨g1, 0, none⟩)), (4, .pointer (some ⟨g2, 0, none⟩)), (15, .bool (decide (x4 < p1)))] ⟨rfl, rfl, rfl, rfl, trivial⟩ (fun u => ?_)
  refine c_cond rfl (fun h6 => ?_) (fun h6 => ?_)
  ·
   replace hm := ite_t hm (of_decide_eq_true h6)
   refine c_seq <| c_region <| g_v rfl (r_build _ rfl (bld36_5)) <| g_storeL (tag := 100040) rfl rfl rfl rfl Try.sizeOf36 rfl rfl <| g_v rfl r_assign <| g_nil <| d_then <| c_ret <| d_ret_then ?_
   cases hm
   exact d_retC () Try.results20 (res_agg (tag := 100040) rfl rfl Try.isAgg36 Try.sizeOf36 (res_tmp (res_nil rfl))) trivial (fun W h => ok_pre (H1 := [_, _]) (R1 := []) h (fun W hφ => hφ)) (.inr rfl)
  replace hm := ite_f hm (of_decide_eq_false h6)
  refine c_skip <| d_then <| c_seq <| c_region <| g_v rfl (r_field (n := 2) Try.underlying38 rfl Try.sizeOf22 rfl rfl) <| g_v rfl (r_load (tag := 100020) rfl rfl rfl Try.isAgg22) <| g_v rfl r_move <| g_v rfl (r_field (n := 0) Try.underlying38 rfl Try.sizeOf3 rfl rfl) <| g_v rfl (r_load (tag := 100020) rfl rfl rfl Try.isAgg3) <| g_v rfl (r_sub rfl rfl rfl) ?_
  refine g_v rfl (r_sub rfl rfl rfl) ?_
  replace hm := bnd hm
  obtain ⟨x7, hx7, hm⟩ := hm
  refine g_know _ (fun W hS => cl_at (p := (Sta.mk w0 M H R φ).ok) (sz := 3) (fun _ => rfl) (by decide) (ok_pre (H1 := [_, _]) (R1 := []) hS (fun W h => h)) fp0_0 hx7) ?_
  rintro ⟨ad8, hA10, f9⟩
  refine g_v rfl (r_ix Try.underlying22 Try.sizeOf36 rfl hA10 rfl hx7) <| g_v rfl (r_ldA rfl Try.isAgg36 Try.sizeOf36 (fun W hS => (f9 W (ok_pre (H1 := [_, _]) (R1 := []) hS (fun W h => h))).take 3) rfl) <| g_storeL (tag := 100040) rfl rfl rfl rfl Try.sizeOf36 rfl rfl <| g_v rfl r_assign <| g_nil <| d_then ?_
  refine c_flat [(4, .pointer (some ⟨g2, 0, none⟩)), (5, .bool true)] ⟨rfl, rfl, trivial⟩ (fun u => ?_)
  refine c_sta ⟨w0, M, (100040, g2, .cells #[.int .i64 x7.fTerm, .int .i64 x7.fKind, .string x7.fData] 36 (0, 0)) :: (100020, g1, .cells #[.int .i64 p0.fBase, .int .i64 p0.fBaseTerm, .slice Ap0_0 p0.fEntries.length cp0_0] 38 (0, 0)) :: H, R, φ⟩ (fun _ h => h) <| c_ret ?_
  cases hm
  exact d_retC () Try.results20 (res_agg (tag := 100040) rfl rfl Try.isAgg36 Try.sizeOf36 (res_tmp (res_nil rfl))) trivial (fun W h => ok_pre (H1 := [_, _]) (R1 := []) h (fun W hφ => hφ)) (.inr rfl)
 replace hm := ite_t hm (of_decide_eq_true h3)
 iterate 3 refine g_no rfl rfl rfl rfl rfl h3 ?_
 refine g_v rfl (r_pick1 rfl h3) <| g_nil <| d_then ?_
 refine c_flat [(1, .int .i64 p1), (2, .pointer (some ⟨g1, 0, none⟩)), (4, .pointer (some ⟨g2, 0, none⟩)), (15, .bool true)] ⟨rfl, rfl, rfl, rfl, trivial⟩ (fun u => ?_)
 refine c_cond1 rfl rfl <| c_seq <| c_region <| g_v rfl (r_build _ rfl (bld36_5)) <| g_storeL (tag := 100040) rfl rfl rfl rfl Try.sizeOf36 rfl rfl <| g_v rfl r_assign <| g_nil <| d_then <| c_ret <| d_ret_then ?_
 cases hm
 exact d_retC () Try.results20 (res_agg (tag := 100040) rfl rfl Try.isAgg36 Try.sizeOf36 (res_tmp (res_nil rfl))) trivial (fun W h => ok_pre (H1 := [_, _]) (R1 := []) h (fun W hφ => hφ)) (.inr rfl)
noncomputable def m_plog_Term (p0 : GLog) (p1 : Int) : Option (Int × Bool) :=
  if p1 = p0.fBase then
    some (p0.fBaseTerm, true)
  else
    (m_plog_Get p0 p1).bind fun (z6 : GEntry × Bool) =>
    some (z6.1.fTerm, z6.2)
theorem c_plog_Term {w0 : World} {M : Nat → Prop} {H : List (Nat × Nat × Obj)} {R : List (Nat × Row)} {φ : World → Prop} (p0 : GLog) (Ap0_0 : Option Addr) (cp0_0 : Nat) (hcp0_0 : p0.fEntries.length ≤ cp0_0) (fp0_0 : ∀ W, (Sta.mk w0 M H R φ).ok W → Cl W Ap0_0 (p0.fEntries.flatMap GEntry.enc)) (p1 : Int) (r : Int × Bool) (hm : m_plog_Term p0 p1 = some r) :
    Cn Try.prog 67 #[.agg #[.int .i64 p0.fBase, .int .i64 p0.fBaseTerm, .slice Ap0_0 p0.fEntries.length cp0_0], .int .i64 p1] ⟨w0, M, H, R, φ⟩ (fun x : Unit => .tuple #[.int .i64 r.1, .bool r.2]) (fun x => True) (fun x => ⟨w0, M, H, R, φ⟩) := by
 unfold m_plog_Term at hm
 refine cn_intro (fn := Try.f67) (N := 23) Try.func67 rfl Try.ntmps67 rfl <| c_seq <| c_region ?_
 refine g_e rfl (e_box 100020 rfl) (fun g1 _ => ?_)
 refine g_v rfl r_assign <| g_v rfl r_assign <| g_nil <| d_then <| c_seq <| c_seq <| c_region <| g_v rfl r_move <| g_v rfl (r_field (n := 0) Try.underlying38 rfl Try.sizeOf3 rfl rfl) <| g_v rfl (r_load (tag := 100020) rfl rfl rfl Try.isAgg3) ?_
 refine g_v rfl (r_eql rfl rfl) <| g_nil <| d_then <| c_sta ⟨w0, M, (100020, g1, .cells #[.int .i64 p0.fBase, .int .i64 p0.fBaseTerm, .slice Ap0_0 p0.fEntries.length cp0_0] 38 (0, 0)) :: H, R, φ⟩ (fun _ h => h) ?_
 refine c_cond rfl (fun h2 => ?_) (fun h2 => ?_)
 ·
  replace hm := ite_t hm (of_decide_eq_true h2)
  refine c_seq <| c_region <| g_v rfl (r_field (n := 1) Try.underlying38 rfl Try.sizeOf3 rfl rfl) <| g_v rfl (r_load (tag := 100020) rfl rfl rfl Try.isAgg3) <| g_v rfl r_assign <| g_v rfl r_assign <| g_nil <| d_then ?_
  refine c_flat [(4, .int .i64 p0.fBaseTerm), (5, .bool true)] ⟨rfl, rfl, trivial⟩ (fun u => ?_)
  refine c_ret <| d_ret_then ?_
  cases hm
  exact d_retC () Try.results67 (res_tmp (res_tmp (res_nil rfl))) trivial (fun W h => ok_pre (H1 := [_]) (R1 := []) h (fun W hφ => hφ)) (.inr rfl)
 replace hm := ite_f hm (of_decide_eq_false h2)
 refine c_skip <| d_then <| c_seq <| c_region <| g_v rfl (r_loadA (tag := 100020) rfl rfl Try.isAgg38 Try.sizeOf38 rfl rfl) <| g_v rfl r_move ?_
 replace hm := bnd hm
 obtain ⟨⟨x3, x4⟩, hx5, hm⟩ := hm
 refine g_cn ⟨w0, M, _, _, φ⟩ (fun _ h => h) Try.call20 rfl rfl (c_plog_Get p0 Ap0_0 cp0_0 hcp0_0 (fun W hS => fp0_0 W (ok_pre (H1 := [_]) (R1 := []) hS (fun W h => h))) p1 _ hx5) (fun _ _ => ?_)
 refine g_v rfl r_move <| g_v rfl (r_extract rfl rfl) <| g_v rfl (r_extract rfl rfl) ?_
 refine g_e rfl (e_alloc 100060 Try.zeroValue36) (fun g7 _ => ?_)
 refine g_storeL (tag := 100060) rfl rfl rfl rfl Try.sizeOf36 rfl rfl <| g_v rfl r_assign <| g_nil <| d_then ?_
 refine c_flat [(6, .pointer (some ⟨g7, 0, none⟩)), (7, .bool x4)] ⟨rfl, rfl, trivial⟩ (fun u => ?_)
 refine c_sta ⟨w0, M, (100060, g7, .cells #[.int .i64 x3.fTerm, .int .i64 x3.fKind, .string x3.fData] 36 (0, 0)) :: (100020, g1, .cells #[.int .i64 p0.fBase, .int .i64 p0.fBaseTerm, .slice Ap0_0 p0.fEntries.length cp0_0] 38 (0, 0)) :: H, R, φ⟩ (fun _ h => h) <| c_seq <| c_region <| g_v rfl (r_field (n := 0) Try.underlying36 rfl Try.sizeOf3 rfl rfl) <| g_v rfl (r_load (tag := 100060) rfl rfl rfl Try.isAgg3) <| g_v rfl r_move <| g_v rfl r_assign <| g_v rfl r_assign <| g_nil <| d_then ?_
 refine c_ret ?_
 cases hm
 exact d_retC () Try.results67 (res_tmp (res_tmp (res_nil rfl))) trivial (fun W h => ok_pre (H1 := [_, _]) (R1 := []) h (fun W hφ => hφ)) (.inr rfl)
theorem isi36_6  : (Try.prog.info? 36).isSome = true := by kernel_rfl
theorem inf36_7  : (Try.prog.info? 36).map (fun i => (i.zero, i.size, i.bytes)) = some (some (.agg #[.int .i64 0, .int .i64 0, .string (⟨#[]⟩ : ByteArray)]), 3, 32) := by kernel_rfl
noncomputable def m_slices_Clone_74 (p0 : List GEntry) : Option (List GEntry) :=
  (app 32 ([] : List GEntry) p0).bind fun l3 =>
  some l3
theorem c_slices_Clone_74 {w0 : World} {M : Nat → Prop} {H : List (Nat × Nat × Obj)} {R : List (Nat × Row)} {φ : World → Prop} (p0 : List GEntry) (Ap0_0 : Option Addr) (cp0_0 : Nat) (hcp0_0 : p0.length ≤ cp0_0) (fp0_0 : ∀ W, (Sta.mk w0 M H R φ).ok W → Cl W Ap0_0 (p0.flatMap GEntry.enc)) (r : (List GEntry)) (hm : m_slices_Clone_74 p0 = some r) :
    Cn Try.prog 74 #[.slice Ap0_0 p0.length cp0_0] ⟨w0, M, H, R, φ⟩ (fun x : Option Addr × Nat => .slice x.1 r.length x.2) (fun x => r.length ≤ x.2) (fun x => ⟨w0, M, H, (2000, ⟨.slice x.1 r.length x.2, 36, 3, r.length, r.flatMap GEntry.enc⟩) :: R, φ⟩) := by
 unfold m_slices_Clone_74 at hm
 refine cn_intro (fn := Try.f74) (N := 8) Try.func74 rfl Try.ntmps74 rfl <| c_seq <| c_region <| g_v rfl r_assign <| g_nil <| d_then <| c_seq <| c_seq <| c_region <| g_v rfl r_move ?_
 refine g_v rfl (r_isNilS Try.underlying22 rfl rfl) <| g_nil <| d_then ?_
 refine c_cond rfl (fun h1 => ?_) (fun h1 => ?_)
 ·
  refine c_know (p0 = []) (fun W hS => cl_nil_of (enc := GEntry.enc) (fun _ => Nat.le_of_ble_eq_true rfl) (nil_of h1 ▸ fp0_0 W (ok_pre (H1 := []) (R1 := []) hS (fun W h => h)))) (fun hnil => ?_)
  replace hm : some ([] : List GEntry) = some r := by rw [hnil] at hm; exact hm
  refine c_seq <| c_region <| g_v rfl r_assign <| g_nil <| d_then <| c_ret <| d_ret_then ?_
  cases hm
  refine d_sta _ (fun W h => nilR h 11 36 3) <| d_sta _ (fun W h => ok_frontR (t := 11) (t' := 2000) h rfl) ?_
  exact d_retC (none, 0) Try.results74 (res_tmp (res_nil rfl)) (Nat.le_refl 0) (fun W h => h.phi (fun W hφ => hφ)) (.inr rfl)
 refine c_skip <| d_then <| c_seq <| c_region ?_
 refine g_e rfl (e_lit0 (tag := 100050) (sz := 3) Try.underlying22 isi36_6) (fun g2 _ => ?_)
 refine g_v rfl r_move ?_
 replace hm := bnd hm
 obtain ⟨l3, hl3, hm⟩ := hm
 refine g_e rfl (e_appR (enc := GEntry.enc) (l := []) (l1 := p0) (l2 := l3) (tag := 100050) Try.underlying22 inf36_7 rfl (by decide) (by decide) (fun _ => rfl) (fun _ => rfl) rfl (Nat.le_refl 0) rfl rfl (fun W hS => fp0_0 W (ok_pre (H1 := []) (R1 := [_]) hS (fun W h => h))) hl3) (fun ⟨A4, c5⟩ hc5 => ?_)
 refine g_v rfl r_assign <| g_nil <| d_then <| c_ret ?_
 cases hm
 refine d_sta _ (fun W h => ok_frontR (t := 100050) (t' := 2000) h rfl) ?_
 exact d_retC (A4, c5) Try.results74 (res_tmp (res_nil rfl)) hc5 (fun W h => h.phi (fun W hφ => hφ)) (.inr rfl)
noncomputable def m_plog_Slice (p0 : GLog) (p1 : Int) (p2 : Int) : Option (List GEntry) :=
  (m_plog_Last p0).bind fun x2 =>
  if x2 < (max p1 (w64 (p0.fBase + 1))) then
    some ([] : List GEntry)
  else
    if p2 < 1 then
      some ([] : List GEntry)
    else
      (cutLo p0.fEntries (w64 ((w64 ((max p1 (w64 (p0.fBase + 1))) - p0.fBase)) - 1))).bind fun l7 =>
      (cutHi l7 (min p2 (l7.length : Int))).bind fun l9 =>
      (m_slices_Clone_74 l9).bind fun x10 =>
      some x10
theorem c_plog_Slice {w0 : World} {M : Nat → Prop} {H : List (Nat × Nat × Obj)} {R : List (Nat × Row)} {φ : World → Prop} (p0 : GLog) (Ap0_0 : Option Addr) (cp0_0 : Nat) (hcp0_0 : p0.fEntries.length ≤ cp0_0) (fp0_0 : ∀ W, (Sta.mk w0 M H R φ).ok W → Cl W Ap0_0 (p0.fEntries.flatMap GEntry.enc)) (p1 : Int) (p2 : Int) (r : (List GEntry)) (hm : m_plog_Slice p0 p1 p2 = some r) :
    Cn Try.prog 69 #[.agg #[.int .i64 p0.fBase, .int .i64 p0.fBaseTerm, .slice Ap0_0 p0.fEntries.length cp0_0], .int .i64 p1, .int .i64 p2] ⟨w0, M, H, R, φ⟩ (fun x : Option Addr × Nat => .slice x.1 r.length x.2) (fun x => r.length ≤ x.2) (fun x => ⟨w0, M, H, (2000, ⟨.slice x.1 r.length x.2, 36, 3, r.length, r.flatMap GEntry.enc⟩) :: R, φ⟩) := by
 unfold m_plog_Slice at hm
 refine cn_intro (fn := Try.f69) (N := 36) Try.func69 rfl Try.ntmps69 rfl <| c_seq <| c_region ?_
 refine g_e rfl (e_box 100030 rfl) (fun g1 _ => ?_)
 refine g_v rfl r_assign <| g_nil <| d_then <| c_seq <| c_region <| g_v rfl r_move <| g_v rfl (r_field (n := 0) Try.underlying38 rfl Try.sizeOf3 rfl rfl) <| g_v rfl (r_load (tag := 100030) rfl rfl rfl Try.isAgg3) <| g_v rfl (r_add rfl rfl rfl) <| g_v rfl (r_max rfl rfl) ?_
 refine g_v rfl r_assign <| g_nil <| d_then <| c_seq <| c_seq <| c_region <| g_v rfl r_move <| g_v rfl (r_loadA (tag := 100030) rfl rfl Try.isAgg38 Try.sizeOf38 rfl rfl) ?_
 replace hm := bnd hm
 obtain ⟨x2, hx3, hm⟩ := hm
 refine g_cn ⟨w0, M, _, _, φ⟩ (fun _ h => h) Try.call21 rfl rfl (c_plog_Last p0 Ap0_0 cp0_0 hcp0_0 (fun W hS => fp0_0 W (ok_pre (H1 := [_]) (R1 := []) hS (fun W h => h))) _ hx3) (fun _ _ => ?_)
 refine g_v rfl (r_gtr rfl rfl) <| g_v rfl r_move <| g_sta ⟨w0, M, (100030, g1, .cells #[.int .i64 p0.fBase, .int .i64 p0.fBaseTerm, .slice Ap0_0 p0.fEntries.length cp0_0] 38 (0, 0)) :: H, R, φ⟩ (fun _ h => h) ?_
 refine g_if rfl rfl rfl rfl rfl (fun h4 => ?_) (fun h4 => ?_)
 ·
  replace hm := ite_f hm (of_decide_eq_false h4)
  refine g_v rfl r_move <| g_do rfl rfl rfl rfl rfl h4 <| g_v rfl (r_lss rfl rfl) <| g_v rfl (r_pick0 rfl h4) <| g_nil <| d_then ?_
  refine c_flat [(1, .int .i64 (max p1 (w64 (p0.fBase + 1)))), (2, .int .i64 p2), (3, .pointer (some ⟨g1, 0, none⟩)), (20, .bool (decide (p2 < 1)))] ⟨rfl, rfl, rfl, rfl, trivial⟩ (fun u => ?_)
  refine c_cond rfl (fun h5 => ?_) (fun h5 => ?_)
  ·
   replace hm := ite_t hm (of_decide_eq_true h5)
   refine c_seq <| c_region <| g_v rfl r_assign <| g_nil <| d_then <| c_ret <| d_ret_then ?_
   cases hm
   refine d_sta _ (fun W h => nilR h 11 36 3) <| d_sta _ (fun W h => ok_frontR (t := 11) (t' := 2000) h rfl) ?_
   exact d_retC (none, 0) Try.results69 (res_tmp (res_nil rfl)) (Nat.le_refl 0) (fun W h => (h.dropH (t := 100030) rfl).phi (fun W hφ => hφ)) (.inr rfl)
  replace hm := ite_f hm (of_decide_eq_false h5)
  refine c_skip <| d_then <| c_seq <| c_region <| g_v rfl (r_field (n := 2) Try.underlying38 rfl Try.sizeOf22 rfl rfl) <| g_v rfl (r_load (tag := 100030) rfl rfl rfl Try.isAgg22) <| g_v rfl r_move <| g_v rfl (r_field (n := 0) Try.underlying38 rfl Try.sizeOf3 rfl rfl) <| g_v rfl (r_load (tag := 100030) rfl rfl rfl Try.isAgg3) <| g_v rfl (r_sub rfl rfl rfl) ?_
  refine g_v rfl (r_sub rfl rfl rfl) ?_
  replace hm := bnd hm
  obtain ⟨l7, hl7, hm⟩ := hm
  have f6 := fun (W : World) (h : (Sta.mk w0 M H R φ).ok W) => cl_cutLo (enc := GEntry.enc) (sz := 3) (c := cp0_0) (fun _ => rfl) hcp0_0 hl7 (fp0_0 W h)
  refine g_v rfl (r_lcutLo Try.underlying22 Try.sizeOf36 rfl hcp0_0 rfl hl7) <| g_v rfl r_assign <| g_nil <| d_then ?_
  refine c_flat [(2, .int .i64 p2), (7, .slice (if cp0_0 = (w64 ((w64 ((max p1 (w64 (p0.fBase + 1))) - p0.fBase)) - 1)).toNat then Ap0_0 else Ap0_0.map (·.add ((w64 ((w64 ((max p1 (w64 (p0.fBase + 1))) - p0.fBase)) - 1)).toNat * 3))) l7.length (cp0_0 - (w64 ((w64 ((max p1 (w64 (p0.fBase + 1))) - p0.fBase)) - 1)).toNat))] ⟨rfl, rfl, trivial⟩ (fun u => ?_)
  refine c_seq <| c_region ?_
  iterate 3 refine g_v rfl r_move ?_
  refine g_v rfl (r_lenL Try.underlying22 rfl) <| g_v rfl (r_min rfl rfl) ?_
  replace hm := bnd hm
  obtain ⟨l9, hl9, hm⟩ := hm
  have f8 := fun (W : World) (h : (Sta.mk w0 M H R φ).ok W) => cl_cutHi (enc := GEntry.enc) (sz := 3) (fun _ => rfl) hl9 (f6 W h)
  refine g_v rfl (r_lcutHi Try.underlying22 Try.sizeOf36 rfl (cutLo_len hcp0_0 hl7) rfl hl9) ?_
  replace hm := bnd hm
  obtain ⟨x10, hx11, hm⟩ := hm
  refine g_cn ⟨w0, M, _, _, φ⟩ (fun _ h => h) Try.call74 rfl rfl (c_slices_Clone_74 l9 (if cp0_0 = (w64 ((w64 ((max p1 (w64 (p0.fBase + 1))) - p0.fBase)) - 1)).toNat then Ap0_0 else Ap0_0.map (·.add ((w64 ((w64 ((max p1 (w64 (p0.fBase + 1))) - p0.fBase)) - 1)).toNat * 3))) (cp0_0 - (w64 ((w64 ((max p1 (w64 (p0.fBase + 1))) - p0.fBase)) - 1)).toNat) (cutHi_len (cutLo_len hcp0_0 hl7) hl9) (fun W hS => f8 W (ok_pre (H1 := [_]) (R1 := []) hS (fun W h => h))) _ hx11) (fun ⟨A12, c13⟩ hc13 => ?_)
  refine g_sta _ (fun W h => (ok_frontR (t := 2000) (t' := 100350) h rfl)) <| g_v rfl r_assign <| g_nil <| d_then <| c_ret ?_
  cases hm
  refine d_sta _ (fun W h => ok_frontR (t := 100350) (t' := 2000) h rfl) ?_
  exact d_retC (A12, c13) Try.results69 (res_tmp (res_nil rfl)) hc13 (fun W h => (h.dropH (t := 100030) rfl).phi (fun W hφ => hφ)) (.inr rfl)
 replace hm := ite_t hm (of_decide_eq_true h4)
 refine g_no rfl rfl rfl rfl rfl h4 <| g_v rfl (r_pick1 rfl h4) <| g_nil <| d_then ?_
 refine c_flat [(1, .int .i64 (max p1 (w64 (p0.fBase + 1)))), (2, .int .i64 p2), (3, .pointer (some ⟨g1, 0, none⟩)), (20, .bool true)] ⟨rfl, rfl, rfl, rfl, trivial⟩ (fun u => ?_)
 refine c_cond1 rfl rfl <| c_seq <| c_region <| g_v rfl r_assign <| g_nil <| d_then <| c_ret <| d_ret_then ?_
 cases hm
 refine d_sta _ (fun W h => nilR h 12 36 3) <| d_sta _ (fun W h => ok_frontR (t := 12) (t' := 2000) h rfl) ?_
 exact d_retC (none, 0) Try.results69 (res_tmp (res_nil rfl)) (Nat.le_refl 0) (fun W h => (h.dropH (t := 100030) rfl).phi (fun W hφ => hφ)) (.inr rfl)
noncomputable def m_raft_state_sends (p0 : Graft_state) (p1 : GMark) : Option GNote :=
  if w64 (p1.fNext - 1) < p0.fRaft.fHard.fLog.fBase then
    (m_raft_state_note p0 4 p1.fNode).bind fun x6 =>
    some (⟨x6.fKind, x6.fFrom, x6.fTo, x6.fTerm, p0.fRaft.fHard.fLog.fBase, p0.fRaft.fHard.fLog.fBaseTerm, p0.fRaft.fCommit, x6.fGood, x6.fEntries, p0.fRaft.fHard.fVoters, p0.fRaft.fHard.fSnap⟩ : GNote)
  else
    (m_raft_state_note p0 3 p1.fNode).bind fun x16 =>
    (m_plog_Term p0.fRaft.fHard.fLog (w64 (p1.fNext - 1))).bind fun (z29 : Int × Bool) =>
    (m_plog_Slice p0.fRaft.fHard.fLog p1.fNext 16).bind fun x30 =>
    some (⟨x16.fKind, x16.fFrom, x16.fTo, x16.fTerm, w64 (p1.fNext - 1), z29.1, p0.fRaft.fCommit, x16.fGood, x30, x16.fVoters, x16.fSnap⟩ : GNote)
theorem c_raft_state_sends {w0 : World} {M : Nat → Prop} {H : List (Nat × Nat × Obj)} {R : List (Nat × Row)} {φ : World → Prop} (p0 : Graft_state) (Ap0_0 : Option Addr) (cp0_0 : Nat) (hcp0_0 : p0.fRaft.fHard.fVoters.length ≤ cp0_0) (fp0_0 : ∀ W, φ W → Cl W Ap0_0 (p0.fRaft.fHard.fVoters.flatMap (fun x : Int => [Value.int .i64 x]))) (Ap0_1 : Option Addr) (cp0_1 : Nat) (hcp0_1 : p0.fRaft.fHard.fLog.fEntries.length ≤ cp0_1) (fp0_1 : ∀ W, (Sta.mk w0 M H R φ).ok W → Cl W Ap0_1 (p0.fRaft.fHard.fLog.fEntries.flatMap GEntry.enc)) (Ap0_2 : Option Addr) (cp0_2 : Nat) (hcp0_2 : p0.fRaft.fVotes.length ≤ cp0_2) (fp0_2 : ∀ W, (Sta.mk w0 M H R φ).ok W → Cl W Ap0_2 (p0.fRaft.fVotes.flatMap (fun x : Int => [Value.int .i64 x]))) (Ap0_3 : Option Addr) (cp0_3 : Nat) (hcp0_3 : p0.fRaft.fMarks.length ≤ cp0_3) (fp0_3 : ∀ W, (Sta.mk w0 M H R φ).ok W → Cl W Ap0_3 (p0.fRaft.fMarks.flatMap GMark.enc)) (p1 : GMark) (r : GNote) (hm : m_raft_state_sends p0 p1 = some r) :
    Cn Try.prog 63 #[.agg #[.int .i64 p0.fRaft.fMe, .int .i64 p0.fRaft.fRole, .int .i64 p0.fRaft.fLeader, .int .i64 p0.fRaft.fCommit, .int .i64 p0.fRaft.fLeft, .int .i64 p0.fRaft.fHard.fTerm, .int .i64 p0.fRaft.fHard.fVote, .slice Ap0_0 p0.fRaft.fHard.fVoters.length cp0_0, .string p0.fRaft.fHard.fSnap, .int .i64 p0.fRaft.fHard.fLog.fBase, .int .i64 p0.fRaft.fHard.fLog.fBaseTerm, .slice Ap0_1 p0.fRaft.fHard.fLog.fEntries.length cp0_1, .slice Ap0_2 p0.fRaft.fVotes.length cp0_2, .slice Ap0_3 p0.fRaft.fMarks.length cp0_3], .agg #[.int .i64 p1.fNode, .int .i64 p1.fNext, .int .i64 p1.fMatch]] ⟨w0, M, H, R, φ⟩ (fun x : Option Addr × Nat × Option Addr × Nat => .agg #[.int .i64 r.fKind, .int .i64 r.fFrom, .int .i64 r.fTo, .int .i64 r.fTerm, .int .i64 r.fIndex, .int .i64 r.fLogTerm, .int .i64 r.fCommit, .bool r.fGood, .slice x.1 r.fEntries.length x.2.1, .slice x.2.2.1 r.fVoters.length x.2.2.2, .string r.fSnap]) (fun x => r.fEntries.length ≤ x.2.1 ∧ r.fVoters.length ≤ x.2.2.2) (fun x => ⟨w0, M, H, R, fun W => φ W ∧ Cl W x.1 (r.fEntries.flatMap GEntry.enc) ∧ Cl W x.2.2.1 (r.fVoters.flatMap (fun x : Int => [Value.int .i64 x]))⟩) := by
 unfold m_raft_state_sends at hm
 refine cn_intro (fn := Try.f63) (N := 68) Try.func63 rfl Try.ntmps63 rfl <| c_seq <| c_region ?_
 refine g_e rfl (e_box 100020 rfl) (fun g1 _ => ?_)
 refine g_e rfl (e_box 100030 rfl) (fun g2 _ => ?_)
 refine g_e rfl (e_alloc 100040 Try.zeroValue25) (fun g3 _ => ?_)
 refine g_nil <| d_then <| c_seq <| c_region <| g_v rfl (r_field (n := 1) Try.underlying105 rfl Try.sizeOf3 rfl rfl) <| g_v rfl (r_load (tag := 100030) rfl rfl rfl Try.isAgg3) <| g_v rfl (r_sub rfl rfl rfl) <| g_v rfl r_assign <| g_nil <| d_then ?_
 refine c_seq <| c_region <| g_v rfl (r_field (n := 0) Try.underlying84 rfl Try.sizeOf43 rfl rfl) <| g_v rfl (r_field (n := 5) Try.underlying43 rfl Try.sizeOf40 rfl rfl) <| g_v rfl (r_field (n := 9) Try.underlying40 rfl Try.sizeOf38 rfl rfl) <| g_v rfl (r_loadA (tag := 100020) rfl rfl Try.isAgg38 Try.sizeOf38 rfl rfl) ?_
 refine g_e rfl (e_alloc 100060 Try.zeroValue38) (fun g4 _ => ?_)
 refine g_storeL (tag := 100060) rfl rfl rfl rfl Try.sizeOf38 rfl rfl <| g_nil <| d_then ?_
 refine c_flat [(2, .pointer (some ⟨g1, 0, none⟩)), (3, .pointer (some ⟨g2, 0, none⟩)), (4, .pointer (some ⟨g3, 0, none⟩)), (5, .int .i64 (w64 (p1.fNext - 1))), (6, .pointer (some ⟨g4, 0, none⟩))] ⟨rfl, rfl, rfl, rfl, rfl, trivial⟩ (fun u => ?_)
 refine c_sta ⟨w0, M, (100060, g4, .cells #[.int .i64 p0.fRaft.fHard.fLog.fBase, .int .i64 p0.fRaft.fHard.fLog.fBaseTerm, .slice Ap0_1 p0.fRaft.fHard.fLog.fEntries.length cp0_1] 38 (0, 0)) :: (100040, g3, .cells #[.int .i64 0, .int .i64 0, .int .i64 0, .int .i64 0, .int .i64 0, .int .i64 0, .int .i64 0, .bool false, .slice none 0 0, .slice none 0 0, .string (⟨#[]⟩ : ByteArray)] 25 (0, 0)) :: (100030, g2, .cells #[.int .i64 p1.fNode, .int .i64 p1.fNext, .int .i64 p1.fMatch] 105 (0, 0)) :: (100020, g1, .cells #[.int .i64 p0.fRaft.fMe, .int .i64 p0.fRaft.fRole, .int .i64 p0.fRaft.fLeader, .int .i64 p0.fRaft.fCommit, .int .i64 p0.fRaft.fLeft, .int .i64 p0.fRaft.fHard.fTerm, .int .i64 p0.fRaft.fHard.fVote, .slice Ap0_0 p0.fRaft.fHard.fVoters.length cp0_0, .string p0.fRaft.fHard.fSnap, .int .i64 p0.fRaft.fHard.fLog.fBase, .int .i64 p0.fRaft.fHard.fLog.fBaseTerm, .slice Ap0_1 p0.fRaft.fHard.fLog.fEntries.length cp0_1, .slice Ap0_2 p0.fRaft.fVotes.length cp0_2, .slice Ap0_3 p0.fRaft.fMarks.length cp0_3] 84 (0, 0)) :: H, R, φ⟩ (fun _ h => h) <| c_seq <| c_seq <| c_region <| g_v rfl r_move <| g_v rfl (r_field (n := 0) Try.underlying38 rfl Try.sizeOf3 rfl rfl) <| g_v rfl (r_load (tag := 100060) rfl rfl rfl Try.isAgg3) <| g_v rfl (r_lss rfl rfl) <| g_nil <| d_then ?_
 refine c_cond rfl (fun h5 => ?_) (fun h5 => ?_)
 ·
  replace hm := ite_t hm (of_decide_eq_true h5)
  refine c_seq <| c_region <| g_v rfl (r_loadA (tag := 100020) rfl rfl Try.isAgg84 Try.sizeOf84 rfl rfl) <| g_v rfl (r_field (n := 0) Try.underlying105 rfl Try.sizeOf3 rfl rfl) <| g_v rfl (r_load (tag := 100030) rfl rfl rfl Try.isAgg3) ?_
  replace hm := bnd hm
  obtain ⟨x6, hx7, hm⟩ := hm
  refine g_cn ⟨w0, M, _, _, φ⟩ (fun _ h => h) Try.call65 rfl rfl (c_raft_state_note p0 Ap0_0 cp0_0 hcp0_0 (fun W hS => fp0_0 W hS.now) Ap0_1 cp0_1 hcp0_1 (fun W hS => fp0_1 W (ok_pre (H1 := [_, _, _, _]) (R1 := []) hS (fun W h => h))) Ap0_2 cp0_2 hcp0_2 (fun W hS => fp0_2 W (ok_pre (H1 := [_, _, _, _]) (R1 := []) hS (fun W h => h))) Ap0_3 cp0_3 hcp0_3 (fun W hS => fp0_3 W (ok_pre (H1 := [_, _, _, _]) (R1 := []) hS (fun W h => h))) 4 p1.fNode _ hx7) (fun ⟨A8, c9, A11, c12⟩ ⟨hc9, hc12⟩ => ?_)
  refine g_abs (fun φ14 q14' => ?_)
  have q14 : ∀ W, φ14 W → φ W := fun W h => (q14' W h).1
  have f10 := fun (W : World) (h : φ14 W) => (q14' W h).2.1
  have f13 := fun (W : World) (h : φ14 W) => (q14' W h).2.2
  refine g_e rfl (e_alloc 100070 Try.zeroValue25) (fun g15 _ => ?_)
  refine g_storeL (tag := 100070) rfl rfl rfl rfl Try.sizeOf25 rfl rfl <| g_nil <| d_then ?_
  refine c_flat [(2, .pointer (some ⟨g1, 0, none⟩)), (4, .pointer (some ⟨g3, 0, none⟩)), (6, .pointer (some ⟨g4, 0, none⟩)), (7, .pointer (some ⟨g15, 0, none⟩))] ⟨rfl, rfl, rfl, rfl, trivial⟩ (fun u => ?_)
  refine c_sta ⟨w0, M, (100070, g15, .cells #[.int .i64 x6.fKind, .int .i64 x6.fFrom, .int .i64 x6.fTo, .int .i64 x6.fTerm, .int .i64 x6.fIndex, .int .i64 x6.fLogTerm, .int .i64 x6.fCommit, .bool x6.fGood, .slice A8 x6.fEntries.length c9, .slice A11 x6.fVoters.length c12, .string x6.fSnap] 25 (0, 0)) :: (100060, g4, .cells #[.int .i64 p0.fRaft.fHard.fLog.fBase, .int .i64 p0.fRaft.fHard.fLog.fBaseTerm, .slice Ap0_1 p0.fRaft.fHard.fLog.fEntries.length cp0_1] 38 (0, 0)) :: (100040, g3, .cells #[.int .i64 0, .int .i64 0, .int .i64 0, .int .i64 0, .int .i64 0, .int .i64 0, .int .i64 0, .bool false, .slice none 0 0, .slice none 0 0, .string (⟨#[]⟩ : ByteArray)] 25 (0, 0)) :: (100030, g2, .cells #[.int .i64 p1.fNode, .int .i64 p1.fNext, .int .i64 p1.fMatch] 105 (0, 0)) :: (100020, g1, .cells #[.int .i64 p0.fRaft.fMe, .int .i64 p0.fRaft.fRole, .int .i64 p0.fRaft.fLeader, .int .i64 p0.fRaft.fCommit, .int .i64 p0.fRaft.fLeft, .int .i64 p0.fRaft.fHard.fTerm, .int .i64 p0.fRaft.fHard.fVote, .slice Ap0_0 p0.fRaft.fHard.fVoters.length cp0_0, .string p0.fRaft.fHard.fSnap, .int .i64 p0.fRaft.fHard.fLog.fBase, .int .i64 p0.fRaft.fHard.fLog.fBaseTerm, .slice Ap0_1 p0.fRaft.fHard.fLog.fEntries.length cp0_1, .slice Ap0_2 p0.fRaft.fVotes.length cp0_2, .slice Ap0_3 p0.fRaft.fMarks.length cp0_3] 84 (0, 0)) :: H, R, φ14⟩ (fun _ h => h) <| c_seq <| ga_start (n := 25) ⟨w0, M, (100060, g4, .cells #[.int .i64 p0.fRaft.fHard.fLog.fBase, .int .i64 p0.fRaft.fHard.fLog.fBaseTerm, .slice Ap0_1 p0.fRaft.fHard.fLog.fEntries.length cp0_1] 38 (0, 0)) :: (100040, g3, .cells #[.int .i64 0, .int .i64 0, .int .i64 0, .int .i64 0, .int .i64 0, .int .i64 0, .int .i64 0, .bool false, .slice none 0 0, .slice none 0 0, .string (⟨#[]⟩ : ByteArray)] 25 (0, 0)) :: (100030, g2, .cells #[.int .i64 p1.fNode, .int .i64 p1.fNext, .int .i64 p1.fMatch] 105 (0, 0)) :: (100020, g1, .cells #[.int .i64 p0.fRaft.fMe, .int .i64 p0.fRaft.fRole, .int .i64 p0.fRaft.fLeader, .int .i64 p0.fRaft.fCommit, .int .i64 p0.fRaft.fLeft, .int .i64 p0.fRaft.fHard.fTerm, .int .i64 p0.fRaft.fHard.fVote, .slice Ap0_0 p0.fRaft.fHard.fVoters.length cp0_0, .string p0.fRaft.fHard.fSnap, .int .i64 p0.fRaft.fHard.fLog.fBase, .int .i64 p0.fRaft.fHard.fLog.fBaseTerm, .slice Ap0_1 p0.fRaft.fHard.fLog.fEntries.length cp0_1, .slice Ap0_2 p0.fRaft.fVotes.length cp0_2, .slice Ap0_3 p0.fRaft.fMarks.length cp0_3] 84 (0, 0)) :: H, R, φ14⟩ [] #[false, false, false, false, false, false, false, false, false, false, false, false, false, false, false, false, false, false, false, false, false, false, false, false, false] (fun W h => (h.dropH (t := 100070) rfl).phi (fun W hφ => hφ)) mixed rfl rfl <| ga_v (i := 0) (bz 25 1) rfl (by kernel_rfl) (fun _ _ _ _ h => h) rfl (r_field (n := 0) Try.underlying84 rfl Try.sizeOf43 rfl rfl) <| ga_v (i := 1) (bz 25 3) rfl (by kernel_rfl) (fun _ _ _ _ h => h) rfl (r_field (n := 3) Try.underlying43 rfl Try.sizeOf3 rfl rfl) <| ga_v (i := 2) (bz 25 7) rfl (by kernel_rfl) (fun _ _ _ _ h => h) rfl (r_load (tag := 100020) rfl rfl rfl Try.isAgg3) <| ga_v (i := 3) (bz 25 15) rfl (by kernel_rfl) (fun _ _ _ _ h => h) rfl (r_field (n := 0) Try.underlying38 rfl Try.sizeOf3 rfl rfl) <| ga_v (i := 4) (bz 25 31) rfl (by kernel_rfl) (fun _ _ _ _ h => h) rfl (r_load (tag := 100060) rfl rfl rfl Try.isAgg3) <| ga_v (i := 5) (bz 25 63) rfl (by kernel_rfl) (fun _ _ _ _ h => h) rfl (r_field (n := 1) Try.underlying38 rfl Try.sizeOf3 rfl rfl) <| ga_v (i := 6) (bz 25 127) rfl (by kernel_rfl) (fun _ _ _ _ h => h) rfl (r_load (tag := 100060) rfl rfl rfl Try.isAgg3) ?_
  refine ga_v (i := 7) (bz 25 255) rfl (by kernel_rfl) (fun _ _ _ _ h => h) rfl (r_field (n := 0) Try.underlying84 rfl Try.sizeOf43 rfl rfl) <| ga_v (i := 8) (bz 25 511) rfl (by kernel_rfl) (fun _ _ _ _ h => h) rfl (r_field (n := 5) Try.underlying43 rfl Try.sizeOf40 rfl rfl) <| ga_v (i := 9) (bz 25 1023) rfl (by kernel_rfl) (fun _ _ _ _ h => h) rfl (r_field (n := 7) Try.underlying40 rfl Try.sizeOf23 rfl rfl) <| ga_v (i := 10) (bz 25 2047) rfl (by kernel_rfl) (fun _ _ _ _ h => h) rfl (r_load (tag := 100020) rfl rfl rfl Try.isAgg23) <| ga_v (i := 11) (bz 25 4095) rfl (by kernel_rfl) (fun _ _ _ _ h => h) rfl (r_field (n := 0) Try.underlying84 rfl Try.sizeOf43 rfl rfl) <| ga_v (i := 12) (bz 25 8191) rfl (by kernel_rfl) (fun _ _ _ _ h => h) rfl (r_field (n := 5) Try.underlying43 rfl Try.sizeOf40 rfl rfl) <| ga_v (i := 13) (bz 25 16383) rfl (by kernel_rfl) (fun _ _ _ _ h => h) rfl (r_field (n := 8) Try.underlying40 rfl Try.sizeOf9 rfl rfl) <| ga_v (i := 14) (bz 25 32767) rfl (by kernel_rfl) (fun _ _ _ _ h => h) rfl (r_load (tag := 100020) rfl rfl rfl Try.isAgg9) <| ga_r (i := 15) (bz 25 65535) rfl (by kernel_rfl) (by decide) rfl (r_field (n := 6) Try.underlying25 rfl Try.sizeOf3 rfl rfl) <| ga_storeN (i := 16) (tag := 100070) (bz 25 131071) rfl (by kernel_rfl) (by decide) rfl rfl rfl rfl Try.sizeOf3 rfl rfl (fun W h => (h.dropH (t := 100070) rfl).phi (fun W hφ => hφ)) ?_
  refine ga_r (i := 17) (bz 25 262143) rfl (by kernel_rfl) (by decide) rfl (r_field (n := 4) Try.underlying25 rfl Try.sizeOf3 rfl rfl) <| ga_storeN (i := 18) (tag := 100070) (bz 25 524287) rfl (by kernel_rfl) (by decide) rfl rfl rfl rfl Try.sizeOf3 rfl rfl (fun W h => (h.dropH (t := 100070) rfl).phi (fun W hφ => hφ)) <| ga_r (i := 19) (bz 25 1048575) rfl (by kernel_rfl) (by decide) rfl (r_field (n := 5) Try.underlying25 rfl Try.sizeOf3 rfl rfl) <| ga_storeN (i := 20) (tag := 100070) (bz 25 2097151) rfl (by kernel_rfl) (by decide) rfl rfl rfl rfl Try.sizeOf3 rfl rfl (fun W h => (h.dropH (t := 100070) rfl).phi (fun W hφ => hφ)) <| ga_r (i := 21) (bz 25 4194303) rfl (by kernel_rfl) (by decide) rfl (r_field (n := 9) Try.underlying25 rfl Try.sizeOf23 rfl rfl) <| ga_storeN (i := 22) (tag := 100070) (bz 25 8388607) rfl (by kernel_rfl) (by decide) rfl rfl rfl rfl Try.sizeOf23 rfl rfl (fun W h => (h.dropH (t := 100070) rfl).phi (fun W hφ => hφ)) <| ga_r (i := 23) (bz 25 16777215) rfl (by kernel_rfl) (by decide) rfl (r_field (n := 10) Try.underlying25 rfl Try.sizeOf9 rfl rfl) <| ga_storeN (i := 24) (tag := 100070) (bz 25 33554431) rfl (by kernel_rfl) (by decide) rfl rfl rfl rfl Try.sizeOf9 rfl rfl (fun W h => (h.dropH (t := 100070) rfl).phi (fun W hφ => hφ)) <| ga_done (by kernel_rfl) <| d_then ?_
  refine c_flat [(4, .pointer (some ⟨g3, 0, none⟩)), (7, .pointer (some ⟨g15, 0, none⟩))] ⟨rfl, rfl, trivial⟩ (fun u => ?_)
  refine c_sta ⟨w0, M, (100070, g15, .cells #[.int .i64 x6.fKind, .int .i64 x6.fFrom, .int .i64 x6.fTo, .int .i64 x6.fTerm, .int .i64 p0.fRaft.fHard.fLog.fBase, .int .i64 p0.fRaft.fHard.fLog.fBaseTerm, .int .i64 p0.fRaft.fCommit, .bool x6.fGood, .slice A8 x6.fEntries.length c9, .slice Ap0_0 p0.fRaft.fHard.fVoters.length cp0_0, .string p0.fRaft.fHard.fSnap] 25 (0, 0)) :: (100060, g4, .cells #[.int .i64 p0.fRaft.fHard.fLog.fBase, .int .i64 p0.fRaft.fHard.fLog.fBaseTerm, .slice Ap0_1 p0.fRaft.fHard.fLog.fEntries.length cp0_1] 38 (0, 0)) :: (100040, g3, .cells #[.int .i64 0, .int .i64 0, .int .i64 0, .int .i64 0, .int .i64 0, .int .i64 0, .int .i64 0, .bool false, .slice none 0 0, .slice none 0 0, .string (⟨#[]⟩ : ByteArray)] 25 (0, 0)) :: (100030, g2, .cells #[.int .i64 p1.fNode, .int .i64 p1.fNext, .int .i64 p1.fMatch] 105 (0, 0)) :: (100020, g1, .cells #[.int .i64 p0.fRaft.fMe, .int .i64 p0.fRaft.fRole, .int .i64 p0.fRaft.fLeader, .int .i64 p0.fRaft.fCommit, .int .i64 p0.fRaft.fLeft, .int .i64 p0.fRaft.fHard.fTerm, .int .i64 p0.fRaft.fHard.fVote, .slice Ap0_0 p0.fRaft.fHard.fVoters.length cp0_0, .string p0.fRaft.fHard.fSnap, .int .i64 p0.fRaft.fHard.fLog.fBase, .int .i64 p0.fRaft.fHard.fLog.fBaseTerm, .slice Ap0_1 p0.fRaft.fHard.fLog.fEntries.length cp0_1, .slice Ap0_2 p0.fRaft.fVotes.length cp0_2, .slice Ap0_3 p0.fRaft.fMarks.length cp0_3] 84 (0, 0)) :: H, R, φ14⟩ (fun _ h => h) <| c_seq <| c_region <| g_v rfl (r_loadA (tag := 100070) rfl rfl Try.isAgg25 Try.sizeOf25 rfl rfl) <| g_storeL (tag := 100040) rfl rfl rfl rfl Try.sizeOf25 rfl rfl <| g_nil <| d_then <| c_ret <| d_ret_then ?_
  cases hm
  exact d_retC (A8, c9, Ap0_0, cp0_0) Try.results63 (res_agg (tag := 100040) rfl rfl Try.isAgg25 Try.sizeOf25 (res_nil rfl)) ⟨hc9, hcp0_0⟩ (fun W h => ok_pre (H1 := [_, _, _, _, _]) (R1 := []) h (fun W hφ => ⟨(q14 _ hφ), (fun W h => f10 W h) W hφ, (fun W h => fp0_0 W (q14 _ h)) W hφ⟩)) (.inr rfl)
 replace hm := ite_f hm (of_decide_eq_false h5)
 refine c_skip <| d_then <| c_seq <| c_region <| g_v rfl (r_loadA (tag := 100020) rfl rfl Try.isAgg84 Try.sizeOf84 rfl rfl) <| g_v rfl (r_field (n := 0) Try.underlying105 rfl Try.sizeOf3 rfl rfl) <| g_v rfl (r_load (tag := 100030) rfl rfl rfl Try.isAgg3) ?_
 replace hm := bnd hm
 obtain ⟨x16, hx17, hm⟩ := hm
 refine g_cn ⟨w0, M, _, _, φ⟩ (fun _ h => h) Try.call65 rfl rfl (c_raft_state_note p0 Ap0_0 cp0_0 hcp0_0 (fun W hS => fp0_0 W hS.now) Ap0_1 cp0_1 hcp0_1 (fun W hS => fp0_1 W (ok_pre (H1 := [_, _, _, _]) (R1 := []) hS (fun W h => h))) Ap0_2 cp0_2 hcp0_2 (fun W hS => fp0_2 W (ok_pre (H1 := [_, _, _, _]) (R1 := []) hS (fun W h => h))) Ap0_3 cp0_3 hcp0_3 (fun W hS => fp0_3 W (ok_pre (H1 := [_, _, _, _]) (R1 := []) hS (fun W h => h))) 3 p1.fNode _ hx17) (fun ⟨A18, c19, A21, c22⟩ ⟨hc19, hc22⟩ => ?_)
 refine g_abs (fun φ24 q24' => ?_)
 have q24 : ∀ W, φ24 W → φ W := fun W h => (q24' W h).1
 have f20 := fun (W : World) (h : φ24 W) => (q24' W h).2.1
 have f23 := fun (W : World) (h : φ24 W) => (q24' W h).2.2
 refine g_e rfl (e_alloc 100080 Try.zeroValue25) (fun g25 _ => ?_)
 refine g_storeL (tag := 100080) rfl rfl rfl rfl Try.sizeOf25 rfl rfl <| g_nil <| d_then ?_
 refine c_flat [(2, .pointer (some ⟨g1, 0, none⟩)), (3, .pointer (some ⟨g2, 0, none⟩)), (4, .pointer (some ⟨g3, 0, none⟩)), (5, .int .i64 (w64 (p1.fNext - 1))), (6, .pointer (some ⟨g4, 0, none⟩)), (8, .pointer (some ⟨g25, 0, none⟩))] ⟨rfl, rfl, rfl, rfl, rfl, rfl, trivial⟩ (fun u => ?_)
 refine c_sta ⟨w0, M, (100080, g25, .cells #[.int .i64 x16.fKind, .int .i64 x16.fFrom, .int .i64 x16.fTo, .int .i64 x16.fTerm, .int .i64 x16.fIndex, .int .i64 x16.fLogTerm, .int .i64 x16.fCommit, .bool x16.fGood, .slice A18 x16.fEntries.length c19, .slice A21 x16.fVoters.length c22, .string x16.fSnap] 25 (0, 0)) :: (100060, g4, .cells #[.int .i64 p0.fRaft.fHard.fLog.fBase, .int .i64 p0.fRaft.fHard.fLog.fBaseTerm, .slice Ap0_1 p0.fRaft.fHard.fLog.fEntries.length cp0_1] 38 (0, 0)) :: (100040, g3, .cells #[.int .i64 0, .int .i64 0, .int .i64 0, .int .i64 0, .int .i64 0, .int .i64 0, .int .i64 0, .bool false, .slice none 0 0, .slice none 0 0, .string (⟨#[]⟩ : ByteArray)] 25 (0, 0)) :: (100030, g2, .cells #[.int .i64 p1.fNode, .int .i64 p1.fNext, .int .i64 p1.fMatch] 105 (0, 0)) :: (100020, g1, .cells #[.int .i64 p0.fRaft.fMe, .int .i64 p0.fRaft.fRole, .int .i64 p0.fRaft.fLeader, .int .i64 p0.fRaft.fCommit, .int .i64 p0.fRaft.fLeft, .int .i64 p0.fRaft.fHard.fTerm, .int .i64 p0.fRaft.fHard.fVote, .slice Ap0_0 p0.fRaft.fHard.fVoters.length cp0_0, .string p0.fRaft.fHard.fSnap, .int .i64 p0.fRaft.fHard.fLog.fBase, .int .i64 p0.fRaft.fHard.fLog.fBaseTerm, .slice Ap0_1 p0.fRaft.fHard.fLog.fEntries.length cp0_1, .slice Ap0_2 p0.fRaft.fVotes.length cp0_2, .slice Ap0_3 p0.fRaft.fMarks.length cp0_3] 84 (0, 0)) :: H, R, φ24⟩ (fun _ h => h) <| c_seq <| c_region <| g_v rfl (r_field (n := 0) Try.underlying84 rfl Try.sizeOf43 rfl rfl) <| g_v rfl (r_field (n := 3) Try.underlying43 rfl Try.sizeOf3 rfl rfl) <| g_v rfl (r_load (tag := 100020) rfl rfl rfl Try.isAgg3) <| g_v rfl r_move <| g_v rfl (r_field (n := 6) Try.underlying25 rfl Try.sizeOf3 rfl rfl) <| g_storeL (tag := 100080) rfl rfl rfl rfl Try.sizeOf3 rfl rfl <| g_v rfl (r_field (n := 4) Try.underlying25 rfl Try.sizeOf3 rfl rfl) ?_
 refine g_storeL (tag := 100080) rfl rfl rfl rfl Try.sizeOf3 rfl rfl <| g_nil <| d_then <| c_seq <| c_region <| g_v rfl (r_loadA (tag := 100060) rfl rfl Try.isAgg38 Try.sizeOf38 rfl rfl) <| g_v rfl r_move ?_
 replace hm := bnd hm
 obtain ⟨⟨x26, x27⟩, hx28, hm⟩ := hm
 refine g_cn ⟨w0, M, _, _, φ24⟩ (fun _ h => h) Try.call67 rfl rfl (c_plog_Term p0.fRaft.fHard.fLog Ap0_1 cp0_1 hcp0_1 (fun W hS => fp0_1 W (ok_pre (H1 := [_, _, _, _, _]) (R1 := []) hS (fun W h => (q24 _ h)))) (w64 (p1.fNext - 1)) _ hx28) (fun _ _ => ?_)
 refine g_v rfl r_move <| g_v rfl (r_extract rfl rfl) <| g_v rfl (r_extract rfl rfl) <| g_v rfl (r_field (n := 5) Try.underlying25 rfl Try.sizeOf3 rfl rfl) <| g_storeL (tag := 100080) rfl rfl rfl rfl Try.sizeOf3 rfl rfl <| g_nil <| d_then ?_
 refine c_flat [(3, .pointer (some ⟨g2, 0, none⟩)), (4, .pointer (some ⟨g3, 0, none⟩)), (6, .pointer (some ⟨g4, 0, none⟩)), (8, .pointer (some ⟨g25, 0, none⟩))] ⟨rfl, rfl, rfl, rfl, trivial⟩ (fun u => ?_)
 refine c_sta ⟨w0, M, (100080, g25, .cells #[.int .i64 x16.fKind, .int .i64 x16.fFrom, .int .i64 x16.fTo, .int .i64 x16.fTerm, .int .i64 (w64 (p1.fNext - 1)), .int .i64 x26, .int .i64 p0.fRaft.fCommit, .bool x16.fGood, .slice A18 x16.fEntries.length c19, .slice A21 x16.fVoters.length c22, .string x16.fSnap] 25 (0, 0)) :: (100060, g4, .cells #[.int .i64 p0.fRaft.fHard.fLog.fBase, .int .i64 p0.fRaft.fHard.fLog.fBaseTerm, .slice Ap0_1 p0.fRaft.fHard.fLog.fEntries.length cp0_1] 38 (0, 0)) :: (100040, g3, .cells #[.int .i64 0, .int .i64 0, .int .i64 0, .int .i64 0, .int .i64 0, .int .i64 0, .int .i64 0, .bool false, .slice none 0 0, .slice none 0 0, .string (⟨#[]⟩ : ByteArray)] 25 (0, 0)) :: (100030, g2, .cells #[.int .i64 p1.fNode, .int .i64 p1.fNext, .int .i64 p1.fMatch] 105 (0, 0)) :: (100020, g1, .cells #[.int .i64 p0.fRaft.fMe, .int .i64 p0.fRaft.fRole, .int .i64 p0.fRaft.fLeader, .int .i64 p0.fRaft.fCommit, .int .i64 p0.fRaft.fLeft, .int .i64 p0.fRaft.fHard.fTerm, .int .i64 p0.fRaft.fHard.fVote, .slice Ap0_0 p0.fRaft.fHard.fVoters.length cp0_0, .string p0.fRaft.fHard.fSnap, .int .i64 p0.fRaft.fHard.fLog.fBase, .int .i64 p0.fRaft.fHard.fLog.fBaseTerm, .slice Ap0_1 p0.fRaft.fHard.fLog.fEntries.length cp0_1, .slice Ap0_2 p0.fRaft.fVotes.length cp0_2, .slice Ap0_3 p0.fRaft.fMarks.length cp0_3] 84 (0, 0)) :: H, R, φ24⟩ (fun _ h => h) <| c_seq <| c_region <| g_v rfl (r_loadA (tag := 100060) rfl rfl Try.isAgg38 Try.sizeOf38 rfl rfl) <| g_v rfl (r_field (n := 1) Try.underlying105 rfl Try.sizeOf3 rfl rfl) <| g_v rfl (r_load (tag := 100030) rfl rfl rfl Try.isAgg3) ?_
 replace hm := bnd hm
 obtain ⟨x30, hx31, hm⟩ := hm
 refine g_cn ⟨w0, M, _, _, φ24⟩ (fun _ h => h) Try.call69 rfl rfl (c_plog_Slice p0.fRaft.fHard.fLog Ap0_1 cp0_1 hcp0_1 (fun W hS => fp0_1 W (ok_pre (H1 := [_, _, _, _, _]) (R1 := []) hS (fun W h => (q24 _ h)))) p1.fNext 16 _ hx31) (fun ⟨A32, c33⟩ hc33 => ?_)
 refine g_sta _ (fun W h => (ok_frontR (t := 2000) (t' := 100650) h rfl)) <| g_v rfl (r_field (n := 8) Try.underlying25 rfl Try.sizeOf22 rfl rfl) <| g_storeL (tag := 100080) rfl rfl rfl rfl Try.sizeOf22 rfl rfl <| g_nil <| d_then <| c_seq <| c_region <| g_v rfl (r_loadA (tag := 100080) rfl rfl Try.isAgg25 Try.sizeOf25 rfl rfl) <| g_storeL (tag := 100040) rfl rfl rfl rfl Try.sizeOf25 rfl rfl <| g_nil ?_
 refine d_then <| c_ret ?_
 cases hm
 refine d_shut (tag := 100650) rfl (fun φ35 q35' => ?_)
 have q35 : ∀ W, φ35 W → φ24 W := fun W h => (q35' W h).1
 have f36 := fun (W : World) (h : φ35 W) => (q35' W h).2
 exact d_retC (A32, c33, A21, c22) Try.results63 (res_agg (tag := 100040) rfl rfl Try.isAgg25 Try.sizeOf25 (res_nil rfl)) ⟨hc33, hc22⟩ (fun W h => ok_pre (H1 := [_, _, _, _, _]) (R1 := []) h (fun W hφ => ⟨(q24 _ (q35 _ hφ)), (fun W h => f36 W h) W hφ, (fun W h => f23 W (q35 _ h)) W hφ⟩)) (.inr rfl)
theorem lit25_8 (z0 : Int) (z1 : Int) (z2 : Int) (z3 : Int) (z4 : Int) (z5 : Int) (z6 : Int) (z7 : Bool) (zAz8 : Option Addr) (znz8 : Nat) (zcz8 : Nat) (zAz9 : Option Addr) (znz9 : Nat) (zcz9 : Nat) (z10 : ByteArray) : Try.prog.builtSlice 25 1 [(0, .agg #[.int .i64 z0, .int .i64 z1, .int .i64 z2, .int .i64 z3, .int .i64 z4, .int .i64 z5, .int .i64 z6, .bool z7, .slice zAz8 znz8 zcz8, .slice zAz9 znz9 zcz9, .string z10])] = some #[.int .i64 z0, .int .i64 z1, .int .i64 z2, .int .i64 z3, .int .i64 z4, .int .i64 z5, .int .i64 z6, .bool z7, .slice zAz8 znz8 zcz8, .slice zAz9 znz9 zcz9, .string z10] := by kernel_rfl
theorem inf25_9  : (Try.prog.info? 25).map (fun i => (i.zero, i.size, i.bytes)) = some (some (.agg #[.int .i64 0, .int .i64 0, .int .i64 0, .int .i64 0, .int .i64 0, .int .i64 0, .int .i64 0, .bool false, .slice none 0 0, .slice none 0 0, .string (⟨#[]⟩ : ByteArray)]), 11, 128) := by kernel_rfl
noncomputable def m_raft_state_all_j1  (l155 : List GNote) : Option (List GNote) :=
  some l155
noncomputable def m_raft_state_all_s2 (p0 : Graft_state) (l190 : List GNote) (i195 : Int) : Option (((List GNote) × Int) ⊕ (List GNote)) :=
  if i195 < (p0.fRaft.fMarks.length : Int) then
    (at_ p0.fRaft.fMarks i195).bind fun x228 =>
    (m_raft_state_sends p0 x228).bind fun x233 =>
    (app 128 l190 [x233]).bind fun l245 =>
    some (.inl (l245, w64 (i195 + 1)))
  else
    some (.inr l190)
noncomputable def m_raft_state_all (p0 : Graft_state) : Option (List GNote) :=
  (loop (fun s => m_raft_state_all_s2 p0 s.1 s.2) (([] : List GNote), 0)).bind fun e => m_raft_state_all_j1 e
theorem c_raft_state_all {w0 : World} {M : Nat → Prop} {H : List (Nat × Nat × Obj)} {R : List (Nat × Row)} {φ : World → Prop} (p0 : Graft_state) (Ap0_0 : Option Addr) (cp0_0 : Nat) (hcp0_0 : p0.fRaft.fHard.fVoters.length ≤ cp0_0) (fp0_0 : ∀ W, φ W → Cl W Ap0_0 (p0.fRaft.fHard.fVoters.flatMap (fun x : Int => [Value.int .i64 x]))) (Ap0_1 : Option Addr) (cp0_1 : Nat) (hcp0_1 : p0.fRaft.fHard.fLog.fEntries.length ≤ cp0_1) (fp0_1 : ∀ W, (Sta.mk w0 M H R φ).ok W → Cl W Ap0_1 (p0.fRaft.fHard.fLog.fEntries.flatMap GEntry.enc)) (Ap0_2 : Option Addr) (cp0_2 : Nat) (hcp0_2 : p0.fRaft.fVotes.length ≤ cp0_2) (fp0_2 : ∀ W, (Sta.mk w0 M H R φ).ok W → Cl W Ap0_2 (p0.fRaft.fVotes.flatMap (fun x : Int => [Value.int .i64 x]))) (Ap0_3 : Option Addr) (cp0_3 : Nat) (hcp0_3 : p0.fRaft.fMarks.length ≤ cp0_3) (fp0_3 : ∀ W, (Sta.mk w0 M H R φ).ok W → Cl W Ap0_3 (p0.fRaft.fMarks.flatMap GMark.enc)) (r : (List GNote)) (hm : m_raft_state_all p0 = some r) :
    Cn Try.prog 39 #[.agg #[.int .i64 p0.fRaft.fMe, .int .i64 p0.fRaft.fRole, .int .i64 p0.fRaft.fLeader, .int .i64 p0.fRaft.fCommit, .int .i64 p0.fRaft.fLeft, .int .i64 p0.fRaft.fHard.fTerm, .int .i64 p0.fRaft.fHard.fVote, .slice Ap0_0 p0.fRaft.fHard.fVoters.length cp0_0, .string p0.fRaft.fHard.fSnap, .int .i64 p0.fRaft.fHard.fLog.fBase, .int .i64 p0.fRaft.fHard.fLog.fBaseTerm, .slice Ap0_1 p0.fRaft.fHard.fLog.fEntries.length cp0_1, .slice Ap0_2 p0.fRaft.fVotes.length cp0_2, .slice Ap0_3 p0.fRaft.fMarks.length cp0_3]] ⟨w0, M, H, R, φ⟩ (fun x : Option Addr × Nat × List GNoteP => .slice x.1 r.length x.2.1) (fun x => (DOk GNote.capP r x.2.2 ∧ r.length ≤ x.2.1)) (fun x => ⟨w0, M, H, (2000, ⟨.slice x.1 r.length x.2.1, 25, 11, r.length, (r.zip x.2.2).flatMap GNote.encP⟩) :: R, fun W => φ W ∧ DOwn GNote.ownP r x.2.2 W⟩) := by
 unfold m_raft_state_all at hm
 refine cn_intro (fn := Try.f39) (N := 25) Try.func39 rfl Try.ntmps39 rfl <| c_seq <| c_region ?_
 refine g_e rfl (e_box 100010 rfl) (fun g1 _ => ?_)
 refine g_v rfl r_assign <| g_nil <| d_then <| c_seq <| c_region <| g_v rfl (r_loadA (tag := 100010) rfl rfl Try.isAgg84 Try.sizeOf84 rfl rfl) <| g_v rfl (r_mkf rfl) <| g_v rfl r_assign <| g_nil <| d_then ?_
 refine c_seq <| c_region <| g_v rfl r_assign <| g_nil <| d_then <| c_seq <| c_seq <| c_region <| g_v rfl (r_field (n := 0) Try.underlying84 rfl Try.sizeOf43 rfl rfl) <| g_v rfl (r_field (n := 13) Try.underlying43 rfl Try.sizeOf41 rfl rfl) ?_
 refine g_v rfl (r_load (tag := 100010) rfl rfl rfl Try.isAgg41) <| g_v rfl (r_lenL Try.underlying41 rfl) <| g_v rfl r_move <| g_nil <| d_then ?_
 refine c_flat [(3, .func (.func 63) #[.agg #[.int .i64 p0.fRaft.fMe, .int .i64 p0.fRaft.fRole, .int .i64 p0.fRaft.fLeader, .int .i64 p0.fRaft.fCommit, .int .i64 p0.fRaft.fLeft, .int .i64 p0.fRaft.fHard.fTerm, .int .i64 p0.fRaft.fHard.fVote, .slice Ap0_0 p0.fRaft.fHard.fVoters.length cp0_0, .string p0.fRaft.fHard.fSnap, .int .i64 p0.fRaft.fHard.fLog.fBase, .int .i64 p0.fRaft.fHard.fLog.fBaseTerm, .slice Ap0_1 p0.fRaft.fHard.fLog.fEntries.length cp0_1, .slice Ap0_2 p0.fRaft.fVotes.length cp0_2, .slice Ap0_3 p0.fRaft.fMarks.length cp0_3]] #[]), (4, .slice none 0 0), (11, .slice Ap0_3 p0.fRaft.fMarks.length cp0_3), (12, .int .i64 (p0.fRaft.fMarks.length : Int)), (13, .int .i64 0)] ⟨rfl, rfl, rfl, rfl, rfl, trivial⟩ (fun u => ?_)
 refine c_sta ⟨w0, M, (100010, g1, .cells #[.int .i64 p0.fRaft.fMe, .int .i64 p0.fRaft.fRole, .int .i64 p0.fRaft.fLeader, .int .i64 p0.fRaft.fCommit, .int .i64 p0.fRaft.fLeft, .int .i64 p0.fRaft.fHard.fTerm, .int .i64 p0.fRaft.fHard.fVote, .slice Ap0_0 p0.fRaft.fHard.fVoters.length cp0_0, .string p0.fRaft.fHard.fSnap, .int .i64 p0.fRaft.fHard.fLog.fBase, .int .i64 p0.fRaft.fHard.fLog.fBaseTerm, .slice Ap0_1 p0.fRaft.fHard.fLog.fEntries.length cp0_1, .slice Ap0_2 p0.fRaft.fVotes.length cp0_2, .slice Ap0_3 p0.fRaft.fMarks.length cp0_3] 84 (0, 0)) :: H, R, φ⟩ (fun _ h => h) <| c_sta _ (fun W h => nilR h 13 25 11) ?_
 refine c_cut (ι := (List GNote) × Option Addr × Nat × List GNoteP) [4] (fun ⟨l155, A156, c157, ps158⟩ => [(4, .slice A156 l155.length c157)]) (fun ⟨l155, A156, c157, ps158⟩ => ⟨w0, M, H, (13, ⟨.slice A156 l155.length c157, 25, 11, l155.length, (l155.zip ps158).flatMap GNote.encP⟩) :: R, fun W => φ W ∧ DOwn GNote.ownP l155 ps158 W⟩) (fun ⟨l155, A156, c157, ps158⟩ => m_raft_state_all_j1 l155 = some r ∧ (DOk GNote.capP l155 ps158 ∧ l155.length ≤ c157)) ?_ (fun ⟨l155, A156, c157, ps158⟩ u ⟨hm, hc157⟩ => ?_)
 ·
  refine c_block ?_
  replace hm := bnd hm
  obtain ⟨out2, hl2, hr2⟩ := hm
  obtain ⟨n225', hl2⟩ := loop_lp hl2
  refine c_loopU (ι := Nat × (List GNote) × Int × Option Addr × Nat × List GNoteP) [3, 4, 11, 12, 13] (fun ⟨n225, l190, i195, A191, c192, ps193⟩ => [(4, .slice A191 l190.length c192), (13, .int .i64 i195)]) (fun ⟨n225, l190, i195, A191, c192, ps193⟩ => ⟨w0, M, H, (13, ⟨.slice A191 l190.length c192, 25, 11, l190.length, (l190.zip ps193).flatMap GNote.encP⟩) :: R, fun W => φ W ∧ DOwn GNote.ownP l190 ps193 W⟩) (fun ⟨n225, l190, i195, A191, c192, ps193⟩ => Lp (fun s => m_raft_state_all_s2 p0 s.1 s.2) n225 (l190, i195) out2 ∧ (DOk GNote.capP l190 ps193 ∧ l190.length ≤ c192)) (fun ⟨n225, l190, i195, A191, c192, ps193⟩ => n225) (n225', ([] : List GNote), 0, none, 0, ([] : List GNoteP)) ⟨hl2, ⟨DOk.nil, (Nat.le_refl 0)⟩⟩ ⟨rfl, rfl, rfl, rfl, rfl, trivial⟩ (fun W h => (h.dropH (t := 100010) rfl).phi (fun W hφ => ⟨hφ, (fun W h => DOwn.nil) W hφ⟩)) (fun ⟨n225, l190, i195, A191, c192, ps193⟩ u ⟨hlp, hc192⟩ => ?_)
  obtain ⟨o2, hm, hnx2⟩ := lp_step hlp
  clear hlp
  replace hm : m_raft_state_all_s2 p0 l190 i195 = some o2 := hm
  unfold m_raft_state_all_s2 at hm
  refine c_abs (fun φ226 q226' => ?_)
  have q226 : ∀ W, φ226 W → φ W := fun W h => (q226' W h).1
  have f194 := fun (W : World) (h : φ226 W) => (q226' W h).2
  refine c_flat [(3, .func (.func 63) #[.agg #[.int .i64 p0.fRaft.fMe, .int .i64 p0.fRaft.fRole, .int .i64 p0.fRaft.fLeader, .int .i64 p0.fRaft.fCommit, .int .i64 p0.fRaft.fLeft, .int .i64 p0.fRaft.fHard.fTerm, .int .i64 p0.fRaft.fHard.fVote, .slice Ap0_0 p0.fRaft.fHard.fVoters.length cp0_0, .string p0.fRaft.fHard.fSnap, .int .i64 p0.fRaft.fHard.fLog.fBase, .int .i64 p0.fRaft.fHard.fLog.fBaseTerm, .slice Ap0_1 p0.fRaft.fHard.fLog.fEntries.length cp0_1, .slice Ap0_2 p0.fRaft.fVotes.length cp0_2, .slice Ap0_3 p0.fRaft.fMarks.length cp0_3]] #[]), (4, .slice A191 l190.length c192), (11, .slice Ap0_3 p0.fRaft.fMarks.length cp0_3), (12, .int .i64 (p0.fRaft.fMarks.length : Int)), (13, .int .i64 i195)] ⟨rfl, rfl, rfl, rfl, rfl, trivial⟩ (fun u => ?_)
  refine c_sta ⟨w0, M, H, (13, ⟨.slice A191 l190.length c192, 25, 11, l190.length, (l190.zip ps193).flatMap GNote.encP⟩) :: R, φ226⟩ (fun _ h => h) <| c_seq <| c_region <| g_v rfl (r_lss rfl rfl) <| g_nil <| d_then <| c_seq ?_
  refine c_cond rfl (fun h227 => ?_) (fun h227 => ?_)
  ·
   replace hm := ite_t hm (of_decide_eq_true h227)
   refine c_skip <| d_then <| c_seq <| c_block <| c_seq <| c_region ?_
   replace hm := bnd hm
   obtain ⟨x228, hx228, hm⟩ := hm
   refine g_know _ (fun W hS => cl_at (p := (Sta.mk w0 M H R φ).ok) (sz := 3) (fun _ => rfl) (by decide) (ok_pre (H1 := []) (R1 := [_]) hS (fun W h => (q226 _ h))) fp0_3 hx228) ?_
   rintro ⟨ad229, hA231, f230⟩
   refine g_v rfl (r_ix Try.underlying41 Try.sizeOf105 rfl hA231 rfl hx228) <| g_v rfl (r_ldA rfl Try.isAgg105 Try.sizeOf105 (fun W hS => (f230 W (ok_pre (H1 := []) (R1 := [_]) hS (fun W h => (q226 _ h)))).take 3) rfl) ?_
   refine g_e rfl (e_alloc 100060 Try.zeroValue105) (fun g232 _ => ?_)
   refine g_storeL (tag := 100060) rfl rfl rfl rfl Try.sizeOf105 rfl rfl <| g_nil <| d_then <| c_region <| g_v rfl r_move <| g_v rfl r_move <| g_v rfl (r_loadA (tag := 100060) rfl rfl Try.isAgg105 Try.sizeOf105 rfl rfl) ?_
   replace hm := bnd hm
   obtain ⟨x233, hx234, hm⟩ := hm
   refine g_cnv ⟨w0, M, _, _, φ226⟩ (fun _ h => h) Try.call63 rfl rfl rfl (c_raft_state_sends p0 Ap0_0 cp0_0 hcp0_0 (fun W h => fp0_0 W (q226 _ h)) Ap0_1 cp0_1 hcp0_1 (fun W hS => fp0_1 W (ok_pre (H1 := [_]) (R1 := [_]) hS (fun W h => (q226 _ h)))) Ap0_2 cp0_2 hcp0_2 (fun W hS => fp0_2 W (ok_pre (H1 := [_]) (R1 := [_]) hS (fun W h => (q226 _ h)))) Ap0_3 cp0_3 hcp0_3 (fun W hS => fp0_3 W (ok_pre (H1 := [_]) (R1 := [_]) hS (fun W h => (q226 _ h)))) x228 _ hx234) (fun ⟨A235, c236, A238, c239⟩ ⟨hc236, hc239⟩ => ?_)
   refine g_abs (fun φ241 q241' => ?_)
   have q241 : ∀ W, φ241 W → φ226 W := fun W h => (q241' W h).1
   have f237 := fun (W : World) (h : φ241 W) => (q241' W h).2.1
   have f240 := fun (W : World) (h : φ241 W) => (q241' W h).2.2
   have hk243 := (DOk.cons (cap := GNote.capP) (x := x233) (p := (⟨A235, c236, A238, c239⟩ : GNoteP)) (⟨hc236, hc239⟩) DOk.nil)
   have f244 := fun (W : World) (h : φ241 W) => (DOwn.cons (own := GNote.ownP) (x := x233) (p := (⟨A235, c236, A238, c239⟩ : GNoteP)) (⟨f237 W h, f240 W h⟩) DOwn.nil)
   refine g_e rfl (e_litD (tag := 100210) (enc := GNote.encP) (sz := 11) hk243 rfl Try.underlying48 (lit25_8 _ _ _ _ _ _ _ _ _ _ _ _ _ _ _) rfl rfl (fun _ => rfl)) (fun g242 _ => ?_)
   replace hm := bnd hm
   obtain ⟨l245, hl245, hm⟩ := hm
   have hk248 := DOk.app (cap := GNote.capP) hc192.1 hk243 hl245
   have f249 := fun (W : World) (h : φ241 W) => DOwn.app (own := GNote.ownP) (cap := GNote.capP) hc192.1 hl245 (f194 W (q241 _ h)) (f244 W h)
   refine g_e rfl (e_appRD (enc := GNote.encP) (l := l190) (l1 := [x233]) (l2 := l245) (tag := 13) hc192.1 hk243 Try.underlying48 inf25_9 rfl (by decide) (by decide) (fun _ => rfl) (fun _ => rfl) rfl hc192.2 rfl rfl (fun W hS => rowCl (tag := 100210) rfl W hS) hl245) (fun ⟨A246, c247⟩ hc247 => ?_)
   refine g_v rfl r_assign <| g_nil <| d_normal_block <| d_then ?_
   refine c_flat [(3, .func (.func 63) #[.agg #[.int .i64 p0.fRaft.fMe, .int .i64 p0.fRaft.fRole, .int .i64 p0.fRaft.fLeader, .int .i64 p0.fRaft.fCommit, .int .i64 p0.fRaft.fLeft, .int .i64 p0.fRaft.fHard.fTerm, .int .i64 p0.fRaft.fHard.fVote, .slice Ap0_0 p0.fRaft.fHard.fVoters.length cp0_0, .string p0.fRaft.fHard.fSnap, .int .i64 p0.fRaft.fHard.fLog.fBase, .int .i64 p0.fRaft.fHard.fLog.fBaseTerm, .slice Ap0_1 p0.fRaft.fHard.fLog.fEntries.length cp0_1, .slice Ap0_2 p0.fRaft.fVotes.length cp0_2, .slice Ap0_3 p0.fRaft.fMarks.length cp0_3]] #[]), (4, .slice A246 l245.length c247), (11, .slice Ap0_3 p0.fRaft.fMarks.length cp0_3), (12, .int .i64 (p0.fRaft.fMarks.length : Int)), (13, .int .i64 i195)] ⟨rfl, rfl, rfl, rfl, rfl, trivial⟩ (fun u => ?_)
   refine c_sta ⟨w0, M, (100060, g232, .cells #[.int .i64 x228.fNode, .int .i64 x228.fNext, .int .i64 x228.fMatch] 105 (0, 0)) :: H, (100210, ⟨.slice (some ⟨g242, 0, none⟩) [x233].length 1, 25, 11, [x233].length, ([x233].zip [(⟨A235, c236, A238, c239⟩ : GNoteP)]).flatMap GNote.encP⟩) :: (13, ⟨.slice A246 l245.length c247, 25, 11, l245.length, (l245.zip (ps193 ++ [(⟨A235, c236, A238, c239⟩ : GNoteP)])).flatMap GNote.encP⟩) :: R, φ241⟩ (fun _ h => h) <| c_region <| g_v rfl (r_add rfl rfl rfl) <| g_v rfl r_move <| g_nil ?_
   obtain ⟨n250, hn250, hlp⟩ := nx_inl hm hnx2
   exact d_round (n250, l245, w64 (i195 + 1), A246, c247, (ps193 ++ [(⟨A235, c236, A238, c239⟩ : GNoteP)])) ⟨hlp, ⟨hk248, hc247⟩⟩ hn250 ⟨rfl, rfl, rfl, rfl, rfl, trivial⟩ (fun W h => ((h.dropR (t := 100210) rfl).dropH (t := 100060) rfl).phi (fun W hφ => ⟨(q226 _ (q241 _ hφ)), (fun W h => (f249 W h)) W hφ⟩))
  replace hm := ite_f hm (of_decide_eq_false h227)
  refine c_exit <| d_exit_then <| d_exit_then <| d_exit_block ?_
  replace hm := nx_out (C := (fun e : (List GNote) => m_raft_state_all_j1 e = some r)) hm hnx2 hr2
  exact d_round (l190, A191, c192, ps193) ⟨hm, ⟨hc192.1, hc192.2⟩⟩ Nat.zero_lt_one ⟨rfl, trivial⟩ (fun W h => h.phi (fun W hφ => ⟨(q226 _ hφ), (fun W h => (f194 W h)) W hφ⟩))
 unfold m_raft_state_all_j1 at hm
 refine d_abs (fun φ160 q160' => ?_)
 have q160 : ∀ W, φ160 W → φ W := fun W h => (q160' W h).1
 have f159 := fun (W : World) (h : φ160 W) => (q160' W h).2
 refine d_flat [(4, .slice A156 l155.length c157)] ⟨rfl, trivial⟩ (fun u => ?_)
 refine d_sta ⟨w0, M, H, (13, ⟨.slice A156 l155.length c157, 25, 11, l155.length, (l155.zip ps158).flatMap GNote.encP⟩) :: R, φ160⟩ (fun _ h => h) <| d_then <| c_seq <| c_region <| g_v rfl r_move <| g_v rfl r_assign <| g_nil <| d_then <| c_ret ?_
 cases hm
 refine d_sta _ (fun W h => ok_frontR (t := 13) (t' := 2000) h rfl) ?_
 exact d_retC (A156, c157, ps158) Try.results39 (res_tmp (res_nil rfl)) ⟨hc157.1, hc157.2⟩ (fun W h => h.phi (fun W hφ => ⟨(q160 _ hφ), (fun W h => (f159 W h)) W hφ⟩)) (.inr rfl)
theorem inf3_10  : (Try.prog.info? 3).map (fun i => (i.zero, i.size, i.bytes)) = some (some (.int .i64 0), 1, 8) := by kernel_rfl
noncomputable def m_plog_rising_j1 (p0 : List Int) : Option Bool :=
  some (decide (0 < (p0.length : Int)))
noncomputable def m_plog_rising_s2 (p0 : List Int) (i33 : Int) : Option (Int ⊕ (Unit ⊕ Bool)) :=
  if i33 < (p0.length : Int) then
    (at_ p0 i33).bind fun x50 =>
    if x50 < 0 then
      some (.inr (.inr false))
    else
      if 64 ≤ x50 then
        some (.inr (.inr false))
      else
        if 0 < i33 then
          (at_ p0 (w64 (i33 - 1))).bind fun x57 =>
          if x50 ≤ x57 then
            some (.inr (.inr false))
          else
            some (.inl (w64 (i33 + 1)))
        else
          some (.inl (w64 (i33 + 1)))
  else
    some (.inr (.inl ()))
noncomputable def m_plog_rising (p0 : List Int) : Option Bool :=
  (loop (fun s => m_plog_rising_s2 p0 s) 0).bind fun e => Sum.elim (fun e => m_plog_rising_j1 p0) (fun x => some x) e
theorem c_plog_rising {w0 : World} {M : Nat → Prop} {H : List (Nat × Nat × Obj)} {R : List (Nat × Row)} {φ : World → Prop} (p0 : List Int) (Ap0_0 : Option Addr) (cp0_0 : Nat) (hcp0_0 : p0.length ≤ cp0_0) (fp0_0 : ∀ W, (Sta.mk w0 M H R φ).ok W → Cl W Ap0_0 (p0.flatMap (fun x : Int => [Value.int .i64 x]))) (r : Bool) (hm : m_plog_rising p0 = some r) :
    Cn Try.prog 77 #[.slice Ap0_0 p0.length cp0_0] ⟨w0, M, H, R, φ⟩ (fun x : Unit => .bool r) (fun x => True) (fun x => ⟨w0, M, H, R, φ⟩) := by
 unfold m_plog_rising at hm
 refine cn_intro (fn := Try.f77) (N := 35) Try.func77 rfl Try.ntmps77 rfl <| c_seq <| c_region <| g_v rfl r_assign <| g_nil <| d_then <| c_seq <| c_seq <| c_region <| g_v rfl r_move ?_
 refine g_v rfl (r_lenL Try.underlying23 rfl) <| g_v rfl r_move <| g_nil <| d_then ?_
 refine c_cut (ι := Unit) [0] (fun _ => []) (fun _ => ⟨w0, M, H, R, φ⟩) (fun _ => m_plog_rising_j1 p0 = some r) ?_ (fun _ u hm => ?_)
 ·
  refine c_block ?_
  replace hm := bnd hm
  obtain ⟨out2, hl2, hr2⟩ := hm
  obtain ⟨n48', hl2⟩ := loop_lp hl2
  refine c_loopU (ι := Nat × Int) [0, 5, 6, 7] (fun ⟨n48, i33⟩ => [(7, .int .i64 i33)]) (fun ⟨n48, i33⟩ => ⟨w0, M, H, R, φ⟩) (fun ⟨n48, i33⟩ => Lp (fun s => m_plog_rising_s2 p0 s) n48 i33 out2) (fun ⟨n48, i33⟩ => n48) (n48', 0) hl2 ⟨rfl, rfl, rfl, rfl, trivial⟩ (fun W h => h.phi (fun W hφ => hφ)) (fun ⟨n48, i33⟩ u hlp => ?_)
  obtain ⟨o2, hm, hnx2⟩ := lp_step hlp
  clear hlp
  replace hm : m_plog_rising_s2 p0 i33 = some o2 := hm
  unfold m_plog_rising_s2 at hm
  refine c_flat [(0, .slice Ap0_0 p0.length cp0_0), (5, .slice Ap0_0 p0.length cp0_0), (6, .int .i64 (p0.length : Int)), (7, .int .i64 i33)] ⟨rfl, rfl, rfl, rfl, trivial⟩ (fun u => ?_)
  refine c_sta ⟨w0, M, H, R, φ⟩ (fun _ h => h) <| c_seq <| c_region <| g_v rfl (r_lss rfl rfl) <| g_nil <| d_then <| c_seq ?_
  refine c_cond rfl (fun h49 => ?_) (fun h49 => ?_)
  ·
   replace hm := ite_t hm (of_decide_eq_true h49)
   refine c_skip <| d_then <| c_seq <| c_block <| c_seq <| c_region <| g_v rfl r_move ?_
   replace hm := bnd hm
   obtain ⟨x50, hx50, hm⟩ := hm
   refine g_know _ (fun W hS => cl_at (p := (Sta.mk w0 M H R φ).ok) (sz := 1) (fun _ => rfl) (by decide) (ok_pre (H1 := []) (R1 := []) hS (fun W h => h)) fp0_0 hx50) ?_
   rintro ⟨ad51, hA53, f52⟩
   refine g_v rfl (r_ix Try.underlying23 Try.sizeOf3 rfl hA53 rfl hx50) <| g_v rfl (r_ld rfl Try.isAgg3 (fun W hS => Cl.head (f52 W (ok_pre (H1 := []) (R1 := []) hS (fun W h => h))))) <| g_v rfl r_assign <| g_v rfl r_assign <| g_nil <| d_then <| c_seq <| c_region <| g_v rfl r_move <| g_v rfl (r_lss rfl rfl) ?_
   refine g_v rfl r_move ?_
   refine g_if rfl rfl rfl rfl rfl (fun h54 => ?_) (fun h54 => ?_)
   ·
    replace hm := ite_f hm (of_decide_eq_false h54)
    refine g_v rfl r_move <| g_do rfl rfl rfl rfl rfl h54 <| g_v rfl (r_geq rfl rfl) <| g_v rfl (r_pick0 rfl h54) <| g_v rfl r_move ?_
    refine g_if rfl rfl rfl rfl rfl (fun h55 => ?_) (fun h55 => ?_)
    ·
     replace hm := ite_f hm (of_decide_eq_false h55)
     refine g_v rfl r_move <| g_do rfl rfl rfl rfl rfl h55 <| g_v rfl (r_gtr rfl rfl) <| g_do rfl rfl rfl rfl rfl h55 <| g_v rfl r_move ?_
     refine g_if rfl rfl rfl rfl rfl (fun h56 => ?_) (fun h56 => ?_)
     ·
      replace hm := ite_t hm (of_decide_eq_true h56)
      refine g_v rfl r_move <| g_do rfl rfl rfl rfl rfl h56 <| g_v rfl r_move <| g_do rfl rfl rfl rfl rfl h56 <| g_v rfl r_move <| g_do rfl rfl rfl rfl rfl h56 <| g_v rfl (r_sub rfl rfl rfl) <| g_do rfl rfl rfl rfl rfl h56 ?_
      replace hm := bnd hm
      obtain ⟨x57, hx57, hm⟩ := hm
      refine g_know _ (fun W hS => cl_at (p := (Sta.mk w0 M H R φ).ok) (sz := 1) (fun _ => rfl) (by decide) (ok_pre (H1 := []) (R1 := []) hS (fun W h => h)) fp0_0 hx57) ?_
      rintro ⟨ad58, hA60, f59⟩
      refine g_v rfl (r_ix Try.underlying23 Try.sizeOf3 rfl hA60 rfl hx57) <| g_do rfl rfl rfl rfl rfl h56 <| g_v rfl (r_ld rfl Try.isAgg3 (fun W hS => Cl.head (f59 W (ok_pre (H1 := []) (R1 := []) hS (fun W h => h))))) <| g_do rfl rfl rfl rfl rfl h56 <| g_v rfl (r_leq rfl rfl) <| g_do rfl rfl rfl rfl rfl h55 <| g_v rfl (r_pick1 rfl h56) <| g_v rfl (r_pick0 rfl h55) <| g_nil <| d_then ?_
      refine c_flat [(0, .slice Ap0_0 p0.length cp0_0), (5, .slice Ap0_0 p0.length cp0_0), (6, .int .i64 (p0.length : Int)), (7, .int .i64 i33), (30, .bool (decide (x50 ≤ x57)))] ⟨rfl, rfl, rfl, rfl, rfl, trivial⟩ (fun u => ?_)
      refine c_cond rfl (fun h61 => ?_) (fun h61 => ?_)
      ·
       replace hm := ite_t hm (of_decide_eq_true h61)
       refine c_seq <| c_region <| g_v rfl r_assign <| g_nil <| d_then <| c_ret <| d_ret_block <| d_ret_then <| d_ret_then <| d_ret_block ?_
       refine d_ret_then <| d_ret_then ?_
       replace hm := nx_out (C := (fun e : Unit ⊕ Bool => Sum.elim (fun e => m_plog_rising_j1 p0) (fun x => some x) e = some r)) hm hnx2 hr2
       replace hm : some false = some r := hm
       cases hm
       exact d_retC () Try.results77 (res_tmp (res_nil rfl)) trivial (fun W h => ok_pre (H1 := []) (R1 := []) h (fun W hφ => hφ)) (.inr rfl)
      replace hm := ite_f hm (of_decide_eq_false h61)
      refine c_skip <| d_normal_block <| d_then <| c_region <| g_v rfl (r_add rfl rfl rfl) <| g_v rfl r_move <| g_nil ?_
      obtain ⟨n62, hn62, hlp⟩ := nx_inl hm hnx2
      exact d_round (n62, w64 (i33 + 1)) hlp hn62 ⟨rfl, rfl, rfl, rfl, trivial⟩ (fun W h => h.phi (fun W hφ => hφ))
     replace hm := ite_f hm (of_decide_eq_false h56)
     iterate 6 refine g_no rfl rfl rfl rfl rfl h56 ?_
     refine g_do rfl rfl rfl rfl rfl h55 <| g_v rfl (r_pick0 rfl h56) <| g_v rfl (r_pick0 rfl h55) <| g_nil <| d_then ?_
     refine c_flat [(0, .slice Ap0_0 p0.length cp0_0), (5, .slice Ap0_0 p0.length cp0_0), (6, .int .i64 (p0.length : Int)), (7, .int .i64 i33), (30, .bool false)] ⟨rfl, rfl, rfl, rfl, rfl, trivial⟩ (fun u => ?_)
     refine c_cond0 rfl rfl <| c_skip <| d_normal_block <| d_then <| c_region <| g_v rfl (r_add rfl rfl rfl) <| g_v rfl r_move <| g_nil ?_
     obtain ⟨n63, hn63, hlp⟩ := nx_inl hm hnx2
     exact d_round (n63, w64 (i33 + 1)) hlp hn63 ⟨rfl, rfl, rfl, rfl, trivial⟩ (fun W h => h.phi (fun W hφ => hφ))
    replace hm := ite_t hm (of_decide_eq_true h55)
    refine g_no rfl rfl rfl rfl rfl h55 <| g_no rfl rfl rfl rfl rfl h55 ?_
    iterate 7 refine g_nu rfl rfl rfl rfl rfl ?_
    refine g_no rfl rfl rfl rfl rfl h55 <| g_v rfl (r_pick1 rfl h55) <| g_nil <| d_then ?_
    refine c_flat [(0, .slice Ap0_0 p0.length cp0_0), (5, .slice Ap0_0 p0.length cp0_0), (6, .int .i64 (p0.length : Int)), (7, .int .i64 i33), (30, .bool true)] ⟨rfl, rfl, rfl, rfl, rfl, trivial⟩ (fun u => ?_)
    refine c_cond1 rfl rfl <| c_seq <| c_region <| g_v rfl r_assign <| g_nil <| d_then <| c_ret <| d_ret_block <| d_ret_then <| d_ret_then ?_
    refine d_ret_block <| d_ret_then <| d_ret_then ?_
    replace hm := nx_out (C := (fun e : Unit ⊕ Bool => Sum.elim (fun e => m_plog_rising_j1 p0) (fun x => some x) e = some r)) hm hnx2 hr2
    replace hm : some false = some r := hm
    cases hm
    exact d_retC () Try.results77 (res_tmp (res_nil rfl)) trivial (fun W h => ok_pre (H1 := []) (R1 := []) h (fun W hφ => hφ)) (.inr rfl)
   replace hm := ite_t hm (of_decide_eq_true h54)
   refine g_no rfl rfl rfl rfl rfl h54 <| g_v rfl (r_pick1 rfl h54) <| g_v rfl r_move ?_
   iterate 3 refine g_no rfl rfl rfl rfl rfl rfl ?_
   iterate 7 refine g_nu rfl rfl rfl rfl rfl ?_
   refine g_no rfl rfl rfl rfl rfl rfl <| g_v rfl (r_pick1 rfl rfl) <| g_nil <| d_then ?_
   refine c_flat [(0, .slice Ap0_0 p0.length cp0_0), (5, .slice Ap0_0 p0.length cp0_0), (6, .int .i64 (p0.length : Int)), (7, .int .i64 i33), (30, .bool true)] ⟨rfl, rfl, rfl, rfl, rfl, trivial⟩ (fun u => ?_)
   refine c_cond1 rfl rfl <| c_seq <| c_region <| g_v rfl r_assign <| g_nil <| d_then <| c_ret <| d_ret_block <| d_ret_then <| d_ret_then ?_
   refine d_ret_block <| d_ret_then <| d_ret_then ?_
   replace hm := nx_out (C := (fun e : Unit ⊕ Bool => Sum.elim (fun e => m_plog_rising_j1 p0) (fun x => some x) e = some r)) hm hnx2 hr2
   replace hm : some false = some r := hm
   cases hm
   exact d_retC () Try.results77 (res_tmp (res_nil rfl)) trivial (fun W h => ok_pre (H1 := []) (R1 := []) h (fun W hφ => hφ)) (.inr rfl)
  replace hm := ite_f hm (of_decide_eq_false h49)
  refine c_exit <| d_exit_then <| d_exit_then <| d_exit_block ?_
  replace hm := nx_out (C := (fun e : Unit ⊕ Bool => Sum.elim (fun e => m_plog_rising_j1 p0) (fun x => some x) e = some r)) hm hnx2 hr2
  exact d_round () hm Nat.zero_lt_one ⟨rfl, trivial⟩ (fun W h => h.phi (fun W hφ => hφ))
 unfold m_plog_rising_j1 at hm
 refine d_flat [(0, .slice Ap0_0 p0.length cp0_0)] ⟨rfl, trivial⟩ (fun u => ?_)
 refine d_sta ⟨w0, M, H, R, φ⟩ (fun _ h => h) <| d_then <| c_seq <| c_region <| g_v rfl r_move <| g_v rfl (r_lenL Try.underlying23 rfl) <| g_v rfl (r_gtr rfl rfl) <| g_v rfl r_assign <| g_nil <| d_then ?_
 refine c_ret ?_
 cases hm
 exact d_retC () Try.results77 (res_tmp (res_nil rfl)) trivial (fun W h => ok_pre (H1 := []) (R1 := []) h (fun W hφ => hφ)) (.inr rfl)
noncomputable def m_plog_List_j1  (l57 : List Int) : Option ((List Int) × Bool) :=
  (m_plog_rising l57).bind fun x60 =>
  if x60 = true then
    some (l57, true)
  else
    some (([] : List Int), false)
noncomputable def m_plog_List_s2 (p0 : ByteArray) (l73 : List Int) (i76 : Int) : Option (((List Int) × Int) ⊕ (List Int)) :=
  if i76 < (p0.size : Int) then
    (sat_ p0 i76).bind fun b89 =>
    (app 8 l73 [w64 b89]).bind fun l91 =>
    some (.inl (l91, w64 (i76 + 1)))
  else
    some (.inr l73)
noncomputable def m_plog_List (p0 : ByteArray) : Option ((List Int) × Bool) :=
  (loop (fun s => m_plog_List_s2 p0 s.1 s.2) (([] : List Int), 0)).bind fun e => m_plog_List_j1 e
theorem c_plog_List {w0 : World} {M : Nat → Prop} {H : List (Nat × Nat × Obj)} {R : List (Nat × Row)} {φ : World → Prop} (p0 : ByteArray) (r : (List Int) × Bool) (hm : m_plog_List p0 = some r) :
    Cn Try.prog 54 #[.string p0] ⟨w0, M, H, R, φ⟩ (fun x : Option Addr × Nat => .tuple #[.slice x.1 r.1.length x.2, .bool r.2]) (fun x => r.1.length ≤ x.2) (fun x => ⟨w0, M, H, (2000, ⟨.slice x.1 r.1.length x.2, 3, 1, r.1.length, r.1.flatMap (fun x : Int => [Value.int .i64 x])⟩) :: R, φ⟩) := by
 unfold m_plog_List at hm
 refine cn_intro (fn := Try.f54) (N := 23) Try.func54 rfl Try.ntmps54 rfl <| c_seq <| c_region <| g_v rfl r_assign <| g_v rfl r_assign <| g_nil <| d_then <| c_seq <| c_region <| g_v rfl r_assign ?_
 refine g_nil <| d_then <| c_seq <| c_seq <| c_region <| g_v rfl r_move <| g_v rfl (r_len Try.underlying9 rfl) <| g_v rfl r_move <| g_nil <| d_then ?_
 refine c_sta _ (fun W h => nilR h 13 3 1) ?_
 refine c_cut (ι := (List Int) × Option Addr × Nat) [4] (fun ⟨l57, A58, c59⟩ => [(4, .slice A58 l57.length c59)]) (fun ⟨l57, A58, c59⟩ => ⟨w0, M, H, (13, ⟨.slice A58 l57.length c59, 3, 1, l57.length, l57.flatMap (fun x : Int => [Value.int .i64 x])⟩) :: R, φ⟩) (fun ⟨l57, A58, c59⟩ => m_plog_List_j1 l57 = some r ∧ l57.length ≤ c59) ?_ (fun ⟨l57, A58, c59⟩ u ⟨hm, hc59⟩ => ?_)
 ·
  refine c_block ?_
  replace hm := bnd hm
  obtain ⟨out2, hl2, hr2⟩ := hm
  obtain ⟨n87', hl2⟩ := loop_lp hl2
  refine c_loopU (ι := Nat × (List Int) × Int × Option Addr × Nat) [0, 4, 7, 8] (fun ⟨n87, l73, i76, A74, c75⟩ => [(4, .slice A74 l73.length c75), (8, .int .i64 i76)]) (fun ⟨n87, l73, i76, A74, c75⟩ => ⟨w0, M, H, (13, ⟨.slice A74 l73.length c75, 3, 1, l73.length, l73.flatMap (fun x : Int => [Value.int .i64 x])⟩) :: R, φ⟩) (fun ⟨n87, l73, i76, A74, c75⟩ => Lp (fun s => m_plog_List_s2 p0 s.1 s.2) n87 (l73, i76) out2 ∧ l73.length ≤ c75) (fun ⟨n87, l73, i76, A74, c75⟩ => n87) (n87', ([] : List Int), 0, none, 0) ⟨hl2, (Nat.le_refl 0)⟩ ⟨rfl, rfl, rfl, rfl, trivial⟩ (fun W h => h.phi (fun W hφ => hφ)) (fun ⟨n87, l73, i76, A74, c75⟩ u ⟨hlp, hc75⟩ => ?_)
  obtain ⟨o2, hm, hnx2⟩ := lp_step hlp
  clear hlp
  replace hm : m_plog_List_s2 p0 l73 i76 = some o2 := hm
  unfold m_plog_List_s2 at hm
  refine c_flat [(0, .string p0), (4, .slice A74 l73.length c75), (7, .int .i64 (p0.size : Int)), (8, .int .i64 i76)] ⟨rfl, rfl, rfl, rfl, trivial⟩ (fun u => ?_)
  refine c_sta ⟨w0, M, H, (13, ⟨.slice A74 l73.length c75, 3, 1, l73.length, l73.flatMap (fun x : Int => [Value.int .i64 x])⟩) :: R, φ⟩ (fun _ h => h) <| c_seq <| c_region <| g_v rfl (r_lss rfl rfl) <| g_nil <| d_then <| c_seq ?_
  refine c_cond rfl (fun h88 => ?_) (fun h88 => ?_)
  ·
   replace hm := ite_t hm (of_decide_eq_true h88)
   refine c_skip <| d_then <| c_seq <| c_block <| c_seq <| c_region <| g_v rfl r_move <| g_v rfl r_assign <| g_nil <| d_then ?_
   refine c_region ?_
   iterate 3 refine g_v rfl r_move ?_
   replace hm := bnd hm
   obtain ⟨b89, hb89, hm⟩ := hm
   refine g_v rfl (r_sat Try.underlying9 rfl rfl hb89) <| g_v rfl (r_conv Try.underlying5 Try.underlying3 rfl rfl) ?_
   refine g_e rfl (e_lit (tag := 100160) (l := [w64 b89]) (enc := (fun x : Int => [Value.int .i64 x])) (sz := 1) rfl Try.underlying23 (lit3_0 _) rfl rfl (fun _ => rfl)) (fun g90 _ => ?_)
   replace hm := bnd hm
   obtain ⟨l91, hl91, hm⟩ := hm
   refine g_e rfl (e_appR (enc := (fun x : Int => [Value.int .i64 x])) (l := l73) (l1 := [w64 b89]) (l2 := l91) (tag := 13) Try.underlying23 inf3_10 rfl (by decide) (by decide) (fun _ => rfl) (fun _ => rfl) rfl hc75 rfl rfl (fun W hS => rowCl (tag := 100160) rfl W hS) hl91) (fun ⟨A92, c93⟩ hc93 => ?_)
   refine g_v rfl r_assign <| g_nil <| d_normal_block <| d_then ?_
   refine c_flat [(0, .string p0), (4, .slice A92 l91.length c93), (7, .int .i64 (p0.size : Int)), (8, .int .i64 i76)] ⟨rfl, rfl, rfl, rfl, trivial⟩ (fun u => ?_)
   refine c_sta ⟨w0, M, H, (100160, ⟨.slice (some ⟨g90, 0, none⟩) [w64 b89].length 1, 3, 1, [w64 b89].length, [w64 b89].flatMap (fun x : Int => [Value.int .i64 x])⟩) :: (13, ⟨.slice A92 l91.length c93, 3, 1, l91.length, l91.flatMap (fun x : Int => [Value.int .i64 x])⟩) :: R, φ⟩ (fun _ h => h) <| c_region <| g_v rfl (r_add rfl rfl rfl) <| g_v rfl r_move <| g_nil ?_
   obtain ⟨n94, hn94, hlp⟩ := nx_inl hm hnx2
   exact d_round (n94, l91, w64 (i76 + 1), A92, c93) ⟨hlp, hc93⟩ hn94 ⟨rfl, rfl, rfl, rfl, trivial⟩ (fun W h => (h.dropR (t := 100160) rfl).phi (fun W hφ => hφ))
  replace hm := ite_f hm (of_decide_eq_false h88)
  refine c_exit <| d_exit_then <| d_exit_then <| d_exit_block ?_
  replace hm := nx_out (C := (fun e : (List Int) => m_plog_List_j1 e = some r)) hm hnx2 hr2
  exact d_round (l73, A74, c75) ⟨hm, hc75⟩ Nat.zero_lt_one ⟨rfl, trivial⟩ (fun W h => h.phi (fun W hφ => hφ))
 unfold m_plog_List_j1 at hm
 refine d_flat [(4, .slice A58 l57.length c59)] ⟨rfl, trivial⟩ (fun u => ?_)
 refine d_sta ⟨w0, M, H, (13, ⟨.slice A58 l57.length c59, 3, 1, l57.length, l57.flatMap (fun x : Int => [Value.int .i64 x])⟩) :: R, φ⟩ (fun _ h => h) <| d_then <| c_seq <| c_seq <| c_region <| g_v rfl r_move ?_
 replace hm := bnd hm
 obtain ⟨x60, hx61, hm⟩ := hm
 refine g_cn ⟨w0, M, _, _, φ⟩ (fun _ h => h) Try.call77 rfl rfl (c_plog_rising l57 A58 c59 hc59 (fun W hS => rowCl (tag := 13) rfl W hS) _ hx61) (fun _ _ => ?_)
 refine g_v rfl (r_not rfl) <| g_nil <| d_then ?_
 refine c_cond rfl (fun h62 => ?_) (fun h62 => ?_)
 ·
  have h62' : x60 = false := by revert h62; cases x60 <;> simp
  replace hm := ite_f hm (bool_nt h62')
  refine c_seq <| c_region <| g_v rfl r_assign <| g_v rfl r_assign <| g_nil <| d_then <| c_ret <| d_ret_then ?_
  cases hm
  refine d_sta _ (fun W h => nilR h 14 3 1) <| d_sta _ (fun W h => ok_frontR (t := 14) (t' := 2000) h rfl) ?_
  exact d_retC (none, 0) Try.results54 (res_tmp (res_tmp (res_nil rfl))) (Nat.le_refl 0) (fun W h => (h.dropR (t := 13) rfl).phi (fun W hφ => hφ)) (.inr rfl)
 have h62' : x60 = true := by revert h62; cases x60 <;> simp
 replace hm := ite_t hm h62'
 refine c_skip <| d_then <| c_seq <| c_region <| g_v rfl r_move <| g_v rfl r_assign <| g_v rfl r_assign <| g_nil <| d_then <| c_ret ?_
 cases hm
 refine d_sta _ (fun W h => ok_frontR (t := 13) (t' := 2000) h rfl) ?_
 exact d_retC (A58, c59) Try.results54 (res_tmp (res_tmp (res_nil rfl))) hc59 (fun W h => h.phi (fun W hφ => hφ)) (.inr rfl)
theorem isi3_11  : (Try.prog.info? 3).isSome = true := by kernel_rfl
noncomputable def m_slices_Clone_75 (p0 : List Int) : Option (List Int) :=
  (app 8 ([] : List Int) p0).bind fun l3 =>
  some l3
theorem c_slices_Clone_75 {w0 : World} {M : Nat → Prop} {H : List (Nat × Nat × Obj)} {R : List (Nat × Row)} {φ : World → Prop} (p0 : List Int) (Ap0_0 : Option Addr) (cp0_0 : Nat) (hcp0_0 : p0.length ≤ cp0_0) (fp0_0 : ∀ W, (Sta.mk w0 M H R φ).ok W → Cl W Ap0_0 (p0.flatMap (fun x : Int => [Value.int .i64 x]))) (r : (List Int)) (hm : m_slices_Clone_75 p0 = some r) :
    Cn Try.prog 75 #[.slice Ap0_0 p0.length cp0_0] ⟨w0, M, H, R, φ⟩ (fun x : Option Addr × Nat => .slice x.1 r.length x.2) (fun x => r.length ≤ x.2) (fun x => ⟨w0, M, H, (2000, ⟨.slice x.1 r.length x.2, 3, 1, r.length, r.flatMap (fun x : Int => [Value.int .i64 x])⟩) :: R, φ⟩) := by
 unfold m_slices_Clone_75 at hm
 refine cn_intro (fn := Try.f75) (N := 8) Try.func75 rfl Try.ntmps75 rfl <| c_seq <| c_region <| g_v rfl r_assign <| g_nil <| d_then <| c_seq <| c_seq <| c_region <| g_v rfl r_move ?_
 refine g_v rfl (r_isNilS Try.underlying23 rfl rfl) <| g_nil <| d_then ?_
 refine c_cond rfl (fun h1 => ?_) (fun h1 => ?_)
 ·
  refine c_know (p0 = []) (fun W hS => cl_nil_of (enc := (fun x : Int => [Value.int .i64 x])) (fun _ => Nat.le_of_ble_eq_true rfl) (nil_of h1 ▸ fp0_0 W (ok_pre (H1 := []) (R1 := []) hS (fun W h => h)))) (fun hnil => ?_)
  replace hm : some ([] : List Int) = some r := by rw [hnil] at hm; exact hm
  refine c_seq <| c_region <| g_v rfl r_assign <| g_nil <| d_then <| c_ret <| d_ret_then ?_
  cases hm
  refine d_sta _ (fun W h => nilR h 11 3 1) <| d_sta _ (fun W h => ok_frontR (t := 11) (t' := 2000) h rfl) ?_
  exact d_retC (none, 0) Try.results75 (res_tmp (res_nil rfl)) (Nat.le_refl 0) (fun W h => h.phi (fun W hφ => hφ)) (.inr rfl)
 refine c_skip <| d_then <| c_seq <| c_region ?_
 refine g_e rfl (e_lit0 (tag := 100050) (sz := 1) Try.underlying23 isi3_11) (fun g2 _ => ?_)
 refine g_v rfl r_move ?_
 replace hm := bnd hm
 obtain ⟨l3, hl3, hm⟩ := hm
 refine g_e rfl (e_appR (enc := (fun x : Int => [Value.int .i64 x])) (l := []) (l1 := p0) (l2 := l3) (tag := 100050) Try.underlying23 inf3_10 rfl (by decide) (by decide) (fun _ => rfl) (fun _ => rfl) rfl (Nat.le_refl 0) rfl rfl (fun W hS => fp0_0 W (ok_pre (H1 := []) (R1 := [_]) hS (fun W h => h))) hl3) (fun ⟨A4, c5⟩ hc5 => ?_)
 refine g_v rfl r_assign <| g_nil <| d_then <| c_ret ?_
 cases hm
 refine d_sta _ (fun W h => ok_frontR (t := 100050) (t' := 2000) h rfl) ?_
 exact d_retC (A4, c5) Try.results75 (res_tmp (res_nil rfl)) hc5 (fun W h => h.phi (fun W hφ => hφ)) (.inr rfl)
noncomputable def m_plog_Now_j1 (p0 : GHard) : Option (List Int) :=
  (m_slices_Clone_75 p0.fVoters).bind fun x34 =>
  some x34
noncomputable def m_plog_Now_s2 (p0 : GHard) (i54 : Int) : Option (Int ⊕ (Unit ⊕ (List Int))) :=
  if i54 < (p0.fLog.fEntries.length : Int) then
    (at_ p0.fLog.fEntries (w64 ((w64 ((p0.fLog.fEntries.length : Int) - 1)) - i54))).bind fun x72 =>
    if x72.fKind = 1 then
      (m_plog_List x72.fData).bind fun (z84 : (List Int) × Bool) =>
      some (.inr (.inr z84.1))
    else
      some (.inl (w64 (i54 + 1)))
  else
    some (.inr (.inl ()))
noncomputable def m_plog_Now (p0 : GHard) : Option (List Int) :=
  (loop (fun s => m_plog_Now_s2 p0 s) 0).bind fun e => Sum.elim (fun e => m_plog_Now_j1 p0) (fun x => some x) e
theorem c_plog_Now {w0 : World} {M : Nat → Prop} {H : List (Nat × Nat × Obj)} {R : List (Nat × Row)} {φ : World → Prop} (p0 : GHard) (Ap0_0 : Option Addr) (cp0_0 : Nat) (hcp0_0 : p0.fVoters.length ≤ cp0_0) (fp0_0 : ∀ W, (Sta.mk w0 M H R φ).ok W → Cl W Ap0_0 (p0.fVoters.flatMap (fun x : Int => [Value.int .i64 x]))) (Ap0_1 : Option Addr) (cp0_1 : Nat) (hcp0_1 : p0.fLog.fEntries.length ≤ cp0_1) (fp0_1 : ∀ W, (Sta.mk w0 M H R φ).ok W → Cl W Ap0_1 (p0.fLog.fEntries.flatMap GEntry.enc)) (r : (List Int)) (hm : m_plog_Now p0 = some r) :
    Cn Try.prog 51 #[.agg #[.int .i64 p0.fTerm, .int .i64 p0.fVote, .slice Ap0_0 p0.fVoters.length cp0_0, .string p0.fSnap, .int .i64 p0.fLog.fBase, .int .i64 p0.fLog.fBaseTerm, .slice Ap0_1 p0.fLog.fEntries.length cp0_1]] ⟨w0, M, H, R, φ⟩ (fun x : Option Addr × Nat => .slice x.1 r.length x.2) (fun x => r.length ≤ x.2) (fun x => ⟨w0, M, H, (2000, ⟨.slice x.1 r.length x.2, 3, 1, r.length, r.flatMap (fun x : Int => [Value.int .i64 x])⟩) :: R, φ⟩) := by
 unfold m_plog_Now at hm
 refine cn_intro (fn := Try.f51) (N := 40) Try.func51 rfl Try.ntmps51 rfl <| c_seq <| c_region ?_
 refine g_e rfl (e_box 100010 rfl) (fun g1 _ => ?_)
 refine g_v rfl r_assign <| g_nil <| d_then <| c_seq <| c_seq <| c_region <| g_v rfl (r_field (n := 4) Try.underlying40 rfl Try.sizeOf38 rfl rfl) <| g_v rfl (r_field (n := 6) Try.underlying38 rfl Try.sizeOf22 rfl rfl) <| g_v rfl (r_load (tag := 100010) rfl rfl rfl Try.isAgg22) <| g_v rfl (r_lenL Try.underlying22 rfl) ?_
 refine g_v rfl r_move <| g_nil <| d_then ?_
 refine c_cut (ι := Unit) [1] (fun _ => []) (fun _ => ⟨w0, M, (100010, g1, .cells #[.int .i64 p0.fTerm, .int .i64 p0.fVote, .slice Ap0_0 p0.fVoters.length cp0_0, .string p0.fSnap, .int .i64 p0.fLog.fBase, .int .i64 p0.fLog.fBaseTerm, .slice Ap0_1 p0.fLog.fEntries.length cp0_1] 40 (0, 0)) :: H, R, φ⟩) (fun _ => m_plog_Now_j1 p0 = some r) ?_ (fun _ u hm => ?_)
 ·
  refine c_block ?_
  replace hm := bnd hm
  obtain ⟨out2, hl2, hr2⟩ := hm
  obtain ⟨n70', hl2⟩ := loop_lp hl2
  refine c_loopU (ι := Nat × Int) [1, 10, 11] (fun ⟨n70, i54⟩ => [(11, .int .i64 i54)]) (fun ⟨n70, i54⟩ => ⟨w0, M, (100010, g1, .cells #[.int .i64 p0.fTerm, .int .i64 p0.fVote, .slice Ap0_0 p0.fVoters.length cp0_0, .string p0.fSnap, .int .i64 p0.fLog.fBase, .int .i64 p0.fLog.fBaseTerm, .slice Ap0_1 p0.fLog.fEntries.length cp0_1] 40 (0, 0)) :: H, R, φ⟩) (fun ⟨n70, i54⟩ => Lp (fun s => m_plog_Now_s2 p0 s) n70 i54 out2) (fun ⟨n70, i54⟩ => n70) (n70', 0) hl2 ⟨rfl, rfl, rfl, trivial⟩ (fun W h => h.phi (fun W hφ => hφ)) (fun ⟨n70, i54⟩ u hlp => ?_)
  obtain ⟨o2, hm, hnx2⟩ := lp_step hlp
  clear hlp
  replace hm : m_plog_Now_s2 p0 i54 = some o2 := hm
  unfold m_plog_Now_s2 at hm
  refine c_flat [(1, .pointer (some ⟨g1, 0, none⟩)), (10, .int .i64 (p0.fLog.fEntries.length : Int)), (11, .int .i64 i54)] ⟨rfl, rfl, rfl, trivial⟩ (fun u => ?_)
  refine c_sta ⟨w0, M, (100010, g1, .cells #[.int .i64 p0.fTerm, .int .i64 p0.fVote, .slice Ap0_0 p0.fVoters.length cp0_0, .string p0.fSnap, .int .i64 p0.fLog.fBase, .int .i64 p0.fLog.fBaseTerm, .slice Ap0_1 p0.fLog.fEntries.length cp0_1] 40 (0, 0)) :: H, R, φ⟩ (fun _ h => h) <| c_seq <| c_region <| g_v rfl (r_lss rfl rfl) <| g_nil <| d_then <| c_seq ?_
  refine c_cond rfl (fun h71 => ?_) (fun h71 => ?_)
  ·
   replace hm := ite_t hm (of_decide_eq_true h71)
   refine c_skip <| d_then <| c_seq <| c_block <| c_seq <| c_region <| g_v rfl r_move <| g_v rfl r_assign <| g_nil <| d_then ?_
   refine c_seq <| c_region <| g_v rfl (r_field (n := 4) Try.underlying40 rfl Try.sizeOf38 rfl rfl) <| g_v rfl (r_field (n := 6) Try.underlying38 rfl Try.sizeOf22 rfl rfl) <| g_v rfl (r_load (tag := 100010) rfl rfl rfl Try.isAgg22) <| g_v rfl (r_field (n := 4) Try.underlying40 rfl Try.sizeOf38 rfl rfl) <| g_v rfl (r_field (n := 6) Try.underlying38 rfl Try.sizeOf22 rfl rfl) <| g_v rfl (r_load (tag := 100010) rfl rfl rfl Try.isAgg22) <| g_v rfl (r_lenL Try.underlying22 rfl) <| g_v rfl (r_sub rfl rfl rfl) ?_
   refine g_v rfl r_move <| g_v rfl (r_sub rfl rfl rfl) ?_
   replace hm := bnd hm
   obtain ⟨x72, hx72, hm⟩ := hm
   refine g_know _ (fun W hS => cl_at (p := (Sta.mk w0 M H R φ).ok) (sz := 3) (fun _ => rfl) (by decide) (ok_pre (H1 := [_]) (R1 := []) hS (fun W h => h)) fp0_1 hx72) ?_
   rintro ⟨ad73, hA75, f74⟩
   refine g_v rfl (r_ix Try.underlying22 Try.sizeOf36 rfl hA75 rfl hx72) <| g_v rfl (r_ldA rfl Try.isAgg36 Try.sizeOf36 (fun W hS => (f74 W (ok_pre (H1 := [_]) (R1 := []) hS (fun W h => h))).take 3) rfl) ?_
   refine g_e rfl (e_alloc 100040 Try.zeroValue36) (fun g76 _ => ?_)
   refine g_storeL (tag := 100040) rfl rfl rfl rfl Try.sizeOf36 rfl rfl <| g_nil <| d_then ?_
   refine c_flat [(1, .pointer (some ⟨g1, 0, none⟩)), (4, .pointer (some ⟨g76, 0, none⟩)), (10, .int .i64 (p0.fLog.fEntries.length : Int)), (11, .int .i64 i54)] ⟨rfl, rfl, rfl, rfl, trivial⟩ (fun u => ?_)
   refine c_sta ⟨w0, M, (100040, g76, .cells #[.int .i64 x72.fTerm, .int .i64 x72.fKind, .string x72.fData] 36 (0, 0)) :: (100010, g1, .cells #[.int .i64 p0.fTerm, .int .i64 p0.fVote, .slice Ap0_0 p0.fVoters.length cp0_0, .string p0.fSnap, .int .i64 p0.fLog.fBase, .int .i64 p0.fLog.fBaseTerm, .slice Ap0_1 p0.fLog.fEntries.length cp0_1] 40 (0, 0)) :: H, R, φ⟩ (fun _ h => h) <| c_seq <| c_region <| g_v rfl (r_field (n := 1) Try.underlying36 rfl Try.sizeOf3 rfl rfl) <| g_v rfl (r_load (tag := 100040) rfl rfl rfl Try.isAgg3) <| g_v rfl (r_eql rfl rfl) <| g_nil <| d_then ?_
   refine c_cond rfl (fun h77 => ?_) (fun h77 => ?_)
   ·
    replace hm := ite_t hm (of_decide_eq_true h77)
    refine c_seq <| c_region <| g_v rfl (r_field (n := 2) Try.underlying36 rfl Try.sizeOf9 rfl rfl) <| g_v rfl (r_load (tag := 100040) rfl rfl rfl Try.isAgg9) ?_
    replace hm := bnd hm
    obtain ⟨⟨x78, x79⟩, hx80, hm⟩ := hm
    refine g_cn ⟨w0, M, _, _, φ⟩ (fun _ h => h) Try.call54 rfl rfl (c_plog_List x72.fData _ hx80) (fun ⟨A81, c82⟩ hc82 => ?_)
    refine g_sta _ (fun W h => (ok_frontR (t := 2000) (t' := 100320) h rfl)) <| g_v rfl r_move <| g_v rfl (r_extract rfl rfl) <| g_v rfl (r_extract rfl rfl) <| g_v rfl r_assign <| g_v rfl r_assign <| g_nil <| d_then ?_
    refine c_flat [(5, .slice A81 x78.length c82)] ⟨rfl, trivial⟩ (fun u => ?_)
    refine c_sta ⟨w0, M, (100040, g76, .cells #[.int .i64 x72.fTerm, .int .i64 x72.fKind, .string x72.fData] 36 (0, 0)) :: (100010, g1, .cells #[.int .i64 p0.fTerm, .int .i64 p0.fVote, .slice Ap0_0 p0.fVoters.length cp0_0, .string p0.fSnap, .int .i64 p0.fLog.fBase, .int .i64 p0.fLog.fBaseTerm, .slice Ap0_1 p0.fLog.fEntries.length cp0_1] 40 (0, 0)) :: H, (100320, ⟨.slice A81 x78.length c82, 3, 1, x78.length, x78.flatMap (fun x : Int => [Value.int .i64 x])⟩) :: R, φ⟩ (fun _ h => h) <| c_seq <| c_region <| g_v rfl r_move <| g_v rfl r_assign <| g_nil <| d_then <| c_ret <| d_ret_block <| d_ret_then ?_
    refine d_ret_then <| d_ret_block <| d_ret_then <| d_ret_then ?_
    replace hm := nx_out (C := (fun e : Unit ⊕ (List Int) => Sum.elim (fun e => m_plog_Now_j1 p0) (fun x => some x) e = some r)) hm hnx2 hr2
    replace hm : some x78 = some r := hm
    cases hm
    refine d_sta _ (fun W h => ok_frontR (t := 100320) (t' := 2000) h rfl) ?_
    exact d_retC (A81, c82) Try.results51 (res_tmp (res_nil rfl)) hc82 (fun W h => ((h.dropH (t := 100040) rfl).dropH (t := 100010) rfl).phi (fun W hφ => hφ)) (.inr rfl)
   replace hm := ite_f hm (of_decide_eq_false h77)
   refine c_skip <| d_normal_block <| d_then <| c_region <| g_v rfl (r_add rfl rfl rfl) <| g_v rfl r_move <| g_nil ?_
   obtain ⟨n85, hn85, hlp⟩ := nx_inl hm hnx2
   exact d_round (n85, w64 (i54 + 1)) hlp hn85 ⟨rfl, rfl, rfl, trivial⟩ (fun W h => (h.dropH (t := 100040) rfl).phi (fun W hφ => hφ))
  replace hm := ite_f hm (of_decide_eq_false h71)
  refine c_exit <| d_exit_then <| d_exit_then <| d_exit_block ?_
  replace hm := nx_out (C := (fun e : Unit ⊕ (List Int) => Sum.elim (fun e => m_plog_Now_j1 p0) (fun x => some x) e = some r)) hm hnx2 hr2
  exact d_round () hm Nat.zero_lt_one ⟨rfl, trivial⟩ (fun W h => h.phi (fun W hφ => hφ))
 unfold m_plog_Now_j1 at hm
 refine d_flat [(1, .pointer (some ⟨g1, 0, none⟩))] ⟨rfl, trivial⟩ (fun u => ?_)
 refine d_sta ⟨w0, M, (100010, g1, .cells #[.int .i64 p0.fTerm, .int .i64 p0.fVote, .slice Ap0_0 p0.fVoters.length cp0_0, .string p0.fSnap, .int .i64 p0.fLog.fBase, .int .i64 p0.fLog.fBaseTerm, .slice Ap0_1 p0.fLog.fEntries.length cp0_1] 40 (0, 0)) :: H, R, φ⟩ (fun _ h => h) <| d_then <| c_seq <| c_region <| g_v rfl (r_field (n := 2) Try.underlying40 rfl Try.sizeOf23 rfl rfl) <| g_v rfl (r_load (tag := 100010) rfl rfl rfl Try.isAgg23) ?_
 replace hm := bnd hm
 obtain ⟨x34, hx35, hm⟩ := hm
 refine g_cn ⟨w0, M, _, _, φ⟩ (fun _ h => h) Try.call75 rfl rfl (c_slices_Clone_75 p0.fVoters Ap0_0 cp0_0 hcp0_0 (fun W hS => fp0_0 W (ok_pre (H1 := [_]) (R1 := []) hS (fun W h => h))) _ hx35) (fun ⟨A36, c37⟩ hc37 => ?_)
 refine g_sta _ (fun W h => (ok_frontR (t := 2000) (t' := 100390) h rfl)) <| g_v rfl r_assign <| g_nil <| d_then <| c_ret ?_
 cases hm
 refine d_sta _ (fun W h => ok_frontR (t := 100390) (t' := 2000) h rfl) ?_
 exact d_retC (A36, c37) Try.results51 (res_tmp (res_nil rfl)) hc37 (fun W h => (h.dropH (t := 100010) rfl).phi (fun W hφ => hφ)) (.inr rfl)
noncomputable def m_raft_state_voters (p0 : Graft_state) : Option (List Int) :=
  (m_plog_Now p0.fRaft.fHard).bind fun x2 =>
  some x2
theorem c_raft_state_voters {w0 : World} {M : Nat → Prop} {H : List (Nat × Nat × Obj)} {R : List (Nat × Row)} {φ : World → Prop} (p0 : Graft_state) (Ap0_0 : Option Addr) (cp0_0 : Nat) (hcp0_0 : p0.fRaft.fHard.fVoters.length ≤ cp0_0) (fp0_0 : ∀ W, (Sta.mk w0 M H R φ).ok W → Cl W Ap0_0 (p0.fRaft.fHard.fVoters.flatMap (fun x : Int => [Value.int .i64 x]))) (Ap0_1 : Option Addr) (cp0_1 : Nat) (hcp0_1 : p0.fRaft.fHard.fLog.fEntries.length ≤ cp0_1) (fp0_1 : ∀ W, (Sta.mk w0 M H R φ).ok W → Cl W Ap0_1 (p0.fRaft.fHard.fLog.fEntries.flatMap GEntry.enc)) (Ap0_2 : Option Addr) (cp0_2 : Nat) (hcp0_2 : p0.fRaft.fVotes.length ≤ cp0_2) (fp0_2 : ∀ W, (Sta.mk w0 M H R φ).ok W → Cl W Ap0_2 (p0.fRaft.fVotes.flatMap (fun x : Int => [Value.int .i64 x]))) (Ap0_3 : Option Addr) (cp0_3 : Nat) (hcp0_3 : p0.fRaft.fMarks.length ≤ cp0_3) (fp0_3 : ∀ W, (Sta.mk w0 M H R φ).ok W → Cl W Ap0_3 (p0.fRaft.fMarks.flatMap GMark.enc)) (r : (List Int)) (hm : m_raft_state_voters p0 = some r) :
    Cn Try.prog 40 #[.agg #[.int .i64 p0.fRaft.fMe, .int .i64 p0.fRaft.fRole, .int .i64 p0.fRaft.fLeader, .int .i64 p0.fRaft.fCommit, .int .i64 p0.fRaft.fLeft, .int .i64 p0.fRaft.fHard.fTerm, .int .i64 p0.fRaft.fHard.fVote, .slice Ap0_0 p0.fRaft.fHard.fVoters.length cp0_0, .string p0.fRaft.fHard.fSnap, .int .i64 p0.fRaft.fHard.fLog.fBase, .int .i64 p0.fRaft.fHard.fLog.fBaseTerm, .slice Ap0_1 p0.fRaft.fHard.fLog.fEntries.length cp0_1, .slice Ap0_2 p0.fRaft.fVotes.length cp0_2, .slice Ap0_3 p0.fRaft.fMarks.length cp0_3]] ⟨w0, M, H, R, φ⟩ (fun x : Option Addr × Nat => .slice x.1 r.length x.2) (fun x => r.length ≤ x.2) (fun x => ⟨w0, M, H, (2000, ⟨.slice x.1 r.length x.2, 3, 1, r.length, r.flatMap (fun x : Int => [Value.int .i64 x])⟩) :: R, φ⟩) := by
 unfold m_raft_state_voters at hm
 refine cn_intro (fn := Try.f40) (N := 7) Try.func40 rfl Try.ntmps40 rfl <| c_seq <| c_region ?_
 refine g_e rfl (e_box 100010 rfl) (fun g1 _ => ?_)
 refine g_v rfl r_assign <| g_nil <| d_then <| c_seq <| c_region <| g_v rfl (r_field (n := 0) Try.underlying84 rfl Try.sizeOf43 rfl rfl) <| g_v rfl (r_field (n := 5) Try.underlying43 rfl Try.sizeOf40 rfl rfl) <| g_v rfl (r_loadA (tag := 100010) rfl rfl Try.isAgg40 Try.sizeOf40 rfl rfl) ?_
 replace hm := bnd hm
 obtain ⟨x2, hx3, hm⟩ := hm
 refine g_cn ⟨w0, M, _, _, φ⟩ (fun _ h => h) Try.call51 rfl rfl (c_plog_Now p0.fRaft.fHard Ap0_0 cp0_0 hcp0_0 (fun W hS => fp0_0 W (ok_pre (H1 := [_]) (R1 := []) hS (fun W h => h))) Ap0_1 cp0_1 hcp0_1 (fun W hS => fp0_1 W (ok_pre (H1 := [_]) (R1 := []) hS (fun W h => h))) _ hx3) (fun ⟨A4, c5⟩ hc5 => ?_)
 refine g_sta _ (fun W h => (ok_frontR (t := 2000) (t' := 100060) h rfl)) <| g_v rfl r_assign <| g_nil <| d_then <| c_ret ?_
 cases hm
 refine d_sta _ (fun W h => ok_frontR (t := 100060) (t' := 2000) h rfl) ?_
 exact d_retC (A4, c5) Try.results40 (res_tmp (res_nil rfl)) hc5 (fun W h => (h.dropH (t := 100010) rfl).phi (fun W hφ => hφ)) (.inr rfl)
noncomputable def m_slices_Index_56_j1  : Option Int :=
  some (-1)
noncomputable def m_slices_Index_56_s2 (p0 : List Int) (p1 : Int) (i24 : Int) : Option (Int ⊕ (Unit ⊕ Int)) :=
  if i24 < (p0.length : Int) then
    (at_ p0 i24).bind fun x34 =>
    if p1 = x34 then
      some (.inr (.inr i24))
    else
      some (.inl (w64 (i24 + 1)))
  else
    some (.inr (.inl ()))
noncomputable def m_slices_Index_56 (p0 : List Int) (p1 : Int) : Option Int :=
  (loop (fun s => m_slices_Index_56_s2 p0 p1 s) 0).bind fun e => Sum.elim (fun e => m_slices_Index_56_j1) (fun x => some x) e
theorem c_slices_Index_56 {w0 : World} {M : Nat → Prop} {H : List (Nat × Nat × Obj)} {R : List (Nat × Row)} {φ : World → Prop} (p0 : List Int) (Ap0_0 : Option Addr) (cp0_0 : Nat) (hcp0_0 : p0.length ≤ cp0_0) (fp0_0 : ∀ W, (Sta.mk w0 M H R φ).ok W → Cl W Ap0_0 (p0.flatMap (fun x : Int => [Value.int .i64 x]))) (p1 : Int) (r : Int) (hm : m_slices_Index_56 p0 p1 = some r) :
    Cn Try.prog 56 #[.slice Ap0_0 p0.length cp0_0, .int .i64 p1] ⟨w0, M, H, R, φ⟩ (fun x : Unit => .int .i64 r) (fun x => True) (fun x => ⟨w0, M, H, R, φ⟩) := by
 unfold m_slices_Index_56 at hm
 refine cn_intro (fn := Try.f56) (N := 19) Try.func56 rfl Try.ntmps56 rfl <| c_seq <| c_region <| g_v rfl r_assign <| g_nil <| d_then <| c_seq <| c_seq <| c_region <| g_v rfl r_move ?_
 refine g_v rfl (r_lenL Try.underlying23 rfl) <| g_v rfl r_move <| g_nil <| d_then ?_
 refine c_cut (ι := Unit) [] (fun _ => []) (fun _ => ⟨w0, M, H, R, φ⟩) (fun _ => m_slices_Index_56_j1 = some r) ?_ (fun _ u hm => ?_)
 ·
  refine c_block ?_
  replace hm := bnd hm
  obtain ⟨out2, hl2, hr2⟩ := hm
  obtain ⟨n32', hl2⟩ := loop_lp hl2
  refine c_loopU (ι := Nat × Int) [0, 1, 7, 8] (fun ⟨n32, i24⟩ => [(8, .int .i64 i24)]) (fun ⟨n32, i24⟩ => ⟨w0, M, H, R, φ⟩) (fun ⟨n32, i24⟩ => Lp (fun s => m_slices_Index_56_s2 p0 p1 s) n32 i24 out2) (fun ⟨n32, i24⟩ => n32) (n32', 0) hl2 ⟨rfl, rfl, rfl, rfl, trivial⟩ (fun W h => h.phi (fun W hφ => hφ)) (fun ⟨n32, i24⟩ u hlp => ?_)
  obtain ⟨o2, hm, hnx2⟩ := lp_step hlp
  clear hlp
  replace hm : m_slices_Index_56_s2 p0 p1 i24 = some o2 := hm
  unfold m_slices_Index_56_s2 at hm
  refine c_flat [(0, .slice Ap0_0 p0.length cp0_0), (1, .int .i64 p1), (7, .int .i64 (p0.length : Int)), (8, .int .i64 i24)] ⟨rfl, rfl, rfl, rfl, trivial⟩ (fun u => ?_)
  refine c_sta ⟨w0, M, H, R, φ⟩ (fun _ h => h) <| c_seq <| c_region <| g_v rfl (r_lss rfl rfl) <| g_nil <| d_then <| c_seq ?_
  refine c_cond rfl (fun h33 => ?_) (fun h33 => ?_)
  ·
   replace hm := ite_t hm (of_decide_eq_true h33)
   refine c_skip <| d_then <| c_seq <| c_block <| c_seq <| c_region <| g_v rfl r_move <| g_v rfl r_assign <| g_nil <| d_then ?_
   refine c_seq <| c_region ?_
   iterate 3 refine g_v rfl r_move ?_
   replace hm := bnd hm
   obtain ⟨x34, hx34, hm⟩ := hm
   refine g_know _ (fun W hS => cl_at (p := (Sta.mk w0 M H R φ).ok) (sz := 1) (fun _ => rfl) (by decide) (ok_pre (H1 := []) (R1 := []) hS (fun W h => h)) fp0_0 hx34) ?_
   rintro ⟨ad35, hA37, f36⟩
   refine g_v rfl (r_ix Try.underlying23 Try.sizeOf3 rfl hA37 rfl hx34) <| g_v rfl (r_ld rfl Try.isAgg3 (fun W hS => Cl.head (f36 W (ok_pre (H1 := []) (R1 := []) hS (fun W h => h))))) <| g_v rfl (r_eql rfl rfl) <| g_nil <| d_then ?_
   refine c_flat [(0, .slice Ap0_0 p0.length cp0_0), (1, .int .i64 p1), (5, .int .i64 i24), (7, .int .i64 (p0.length : Int)), (8, .int .i64 i24), (16, .bool (decide (p1 = x34)))] ⟨rfl, rfl, rfl, rfl, rfl, rfl, trivial⟩ (fun u => ?_)
   refine c_cond rfl (fun h38 => ?_) (fun h38 => ?_)
   ·
    replace hm := ite_t hm (of_decide_eq_true h38)
    refine c_seq <| c_region <| g_v rfl r_move <| g_v rfl r_assign <| g_nil <| d_then <| c_ret <| d_ret_block <| d_ret_then <| d_ret_then ?_
    refine d_ret_block <| d_ret_then <| d_ret_then ?_
    replace hm := nx_out (C := (fun e : Unit ⊕ Int => Sum.elim (fun e => m_slices_Index_56_j1) (fun x => some x) e = some r)) hm hnx2 hr2
    replace hm : some i24 = some r := hm
    cases hm
    exact d_retC () Try.results56 (res_tmp (res_nil rfl)) trivial (fun W h => ok_pre (H1 := []) (R1 := []) h (fun W hφ => hφ)) (.inr rfl)
   replace hm := ite_f hm (of_decide_eq_false h38)
   refine c_skip <| d_normal_block <| d_then <| c_region <| g_v rfl (r_add rfl rfl rfl) <| g_v rfl r_move <| g_nil ?_
   obtain ⟨n39, hn39, hlp⟩ := nx_inl hm hnx2
   exact d_round (n39, w64 (i24 + 1)) hlp hn39 ⟨rfl, rfl, rfl, rfl, trivial⟩ (fun W h => h.phi (fun W hφ => hφ))
  replace hm := ite_f hm (of_decide_eq_false h33)
  refine c_exit <| d_exit_then <| d_exit_then <| d_exit_block ?_
  replace hm := nx_out (C := (fun e : Unit ⊕ Int => Sum.elim (fun e => m_slices_Index_56_j1) (fun x => some x) e = some r)) hm hnx2 hr2
  exact d_round () hm Nat.zero_lt_one trivial (fun W h => h.phi (fun W hφ => hφ))
 unfold m_slices_Index_56_j1 at hm
 refine d_flat [] trivial (fun u => ?_)
 refine d_sta ⟨w0, M, H, R, φ⟩ (fun _ h => h) <| d_then <| c_seq <| c_region <| g_v rfl r_assign <| g_nil <| d_then <| c_ret ?_
 cases hm
 exact d_retC () Try.results56 (res_tmp (res_nil rfl)) trivial (fun W h => ok_pre (H1 := []) (R1 := []) h (fun W hφ => hφ)) (.inr rfl)
noncomputable def m_slices_Contains_35 (p0 : List Int) (p1 : Int) : Option Bool :=
  (m_slices_Index_56 p0 p1).bind fun x1 =>
  some (decide (0 ≤ x1))
theorem c_slices_Contains_35 {w0 : World} {M : Nat → Prop} {H : List (Nat × Nat × Obj)} {R : List (Nat × Row)} {φ : World → Prop} (p0 : List Int) (Ap0_0 : Option Addr) (cp0_0 : Nat) (hcp0_0 : p0.length ≤ cp0_0) (fp0_0 : ∀ W, (Sta.mk w0 M H R φ).ok W → Cl W Ap0_0 (p0.flatMap (fun x : Int => [Value.int .i64 x]))) (p1 : Int) (r : Bool) (hm : m_slices_Contains_35 p0 p1 = some r) :
    Cn Try.prog 35 #[.slice Ap0_0 p0.length cp0_0, .int .i64 p1] ⟨w0, M, H, R, φ⟩ (fun x : Unit => .bool r) (fun x => True) (fun x => ⟨w0, M, H, R, φ⟩) := by
 unfold m_slices_Contains_35 at hm
 refine cn_intro (fn := Try.f35) (N := 9) Try.func35 rfl Try.ntmps35 rfl <| c_seq <| c_region <| g_v rfl r_assign <| g_nil <| d_then <| c_seq <| c_region <| g_v rfl r_move <| g_v rfl r_move ?_
 replace hm := bnd hm
 obtain ⟨x1, hx2, hm⟩ := hm
 refine g_cn ⟨w0, M, _, _, φ⟩ (fun _ h => h) Try.call56 rfl rfl (c_slices_Index_56 p0 Ap0_0 cp0_0 hcp0_0 (fun W hS => fp0_0 W (ok_pre (H1 := []) (R1 := []) hS (fun W h => h))) p1 _ hx2) (fun _ _ => ?_)
 refine g_v rfl (r_geq rfl rfl) <| g_v rfl r_assign <| g_nil <| d_then <| c_ret ?_
 cases hm
 exact d_retC () Try.results35 (res_tmp (res_nil rfl)) trivial (fun W h => ok_pre (H1 := []) (R1 := []) h (fun W hφ => hφ)) (.inr rfl)
noncomputable def m_raft_Majority_j1 (p0 : List Int) (i24 : Int) : Option Bool :=
  some (decide ((p0.length : Int) < w64 (2 * i24)))
noncomputable def m_raft_Majority_s2 (p0 : List Int) (p1 : List Int) (i35 : Int) (i36 : Int) : Option ((Int × Int) ⊕ Int) :=
  if i36 < (p0.length : Int) then
    (at_ p0 i36).bind fun x49 =>
    (m_slices_Contains_35 p1 x49).bind fun x53 =>
    if x53 = true then
      some (.inl (w64 (i35 + 1), w64 (i36 + 1)))
    else
      some (.inl (i35, w64 (i36 + 1)))
  else
    some (.inr i35)
noncomputable def m_raft_Majority (p0 : List Int) (p1 : List Int) : Option Bool :=
  (loop (fun s => m_raft_Majority_s2 p0 p1 s.1 s.2) (0, 0)).bind fun e => m_raft_Majority_j1 p0 e
theorem c_raft_Majority {w0 : World} {M : Nat → Prop} {H : List (Nat × Nat × Obj)} {R : List (Nat × Row)} {φ : World → Prop} (p0 : List Int) (Ap0_0 : Option Addr) (cp0_0 : Nat) (hcp0_0 : p0.length ≤ cp0_0) (fp0_0 : ∀ W, (Sta.mk w0 M H R φ).ok W → Cl W Ap0_0 (p0.flatMap (fun x : Int => [Value.int .i64 x]))) (p1 : List Int) (Ap1_0 : Option Addr) (cp1_0 : Nat) (hcp1_0 : p1.length ≤ cp1_0) (fp1_0 : ∀ W, (Sta.mk w0 M H R φ).ok W → Cl W Ap1_0 (p1.flatMap (fun x : Int => [Value.int .i64 x]))) (r : Bool) (hm : m_raft_Majority p0 p1 = some r) :
    Cn Try.prog 13 #[.slice Ap0_0 p0.length cp0_0, .slice Ap1_0 p1.length cp1_0] ⟨w0, M, H, R, φ⟩ (fun x : Unit => .bool r) (fun x => True) (fun x => ⟨w0, M, H, R, φ⟩) := by
 unfold m_raft_Majority at hm
 refine cn_intro (fn := Try.f13) (N := 25) Try.func13 rfl Try.ntmps13 rfl <| c_seq <| c_region <| g_v rfl r_assign <| g_nil <| d_then <| c_seq <| c_region <| g_v rfl r_assign <| g_nil ?_
 refine d_then <| c_seq <| c_seq <| c_region <| g_v rfl r_move <| g_v rfl (r_lenL Try.underlying23 rfl) <| g_v rfl r_move <| g_nil <| d_then ?_
 refine c_cut (ι := Int) [0, 5] (fun i24 => [(5, .int .i64 i24)]) (fun i24 => ⟨w0, M, H, R, φ⟩) (fun i24 => m_raft_Majority_j1 p0 i24 = some r) ?_ (fun i24 u hm => ?_)
 ·
  refine c_block ?_
  replace hm := bnd hm
  obtain ⟨out2, hl2, hr2⟩ := hm
  obtain ⟨n47', hl2⟩ := loop_lp hl2
  refine c_loopU (ι := Nat × Int × Int) [0, 1, 5, 8, 9, 10] (fun ⟨n47, i35, i36⟩ => [(5, .int .i64 i35), (10, .int .i64 i36)]) (fun ⟨n47, i35, i36⟩ => ⟨w0, M, H, R, φ⟩) (fun ⟨n47, i35, i36⟩ => Lp (fun s => m_raft_Majority_s2 p0 p1 s.1 s.2) n47 (i35, i36) out2) (fun ⟨n47, i35, i36⟩ => n47) (n47', 0, 0) hl2 ⟨rfl, rfl, rfl, rfl, rfl, rfl, trivial⟩ (fun W h => h.phi (fun W hφ => hφ)) (fun ⟨n47, i35, i36⟩ u hlp => ?_)
  obtain ⟨o2, hm, hnx2⟩ := lp_step hlp
  clear hlp
  replace hm : m_raft_Majority_s2 p0 p1 i35 i36 = some o2 := hm
  unfold m_raft_Majority_s2 at hm
  refine c_flat [(0, .slice Ap0_0 p0.length cp0_0), (1, .slice Ap1_0 p1.length cp1_0), (5, .int .i64 i35), (8, .slice Ap0_0 p0.length cp0_0), (9, .int .i64 (p0.length : Int)), (10, .int .i64 i36)] ⟨rfl, rfl, rfl, rfl, rfl, rfl, trivial⟩ (fun u => ?_)
  refine c_sta ⟨w0, M, H, R, φ⟩ (fun _ h => h) <| c_seq <| c_region <| g_v rfl (r_lss rfl rfl) <| g_nil <| d_then <| c_seq ?_
  refine c_cond rfl (fun h48 => ?_) (fun h48 => ?_)
  ·
   replace hm := ite_t hm (of_decide_eq_true h48)
   refine c_skip <| d_then <| c_seq <| c_block <| c_seq <| c_region ?_
   replace hm := bnd hm
   obtain ⟨x49, hx49, hm⟩ := hm
   refine g_know _ (fun W hS => cl_at (p := (Sta.mk w0 M H R φ).ok) (sz := 1) (fun _ => rfl) (by decide) (ok_pre (H1 := []) (R1 := []) hS (fun W h => h)) fp0_0 hx49) ?_
   rintro ⟨ad50, hA52, f51⟩
   refine g_v rfl (r_ix Try.underlying23 Try.sizeOf3 rfl hA52 rfl hx49) <| g_v rfl (r_ld rfl Try.isAgg3 (fun W hS => Cl.head (f51 W (ok_pre (H1 := []) (R1 := []) hS (fun W h => h))))) <| g_v rfl r_assign <| g_nil <| d_then <| c_seq <| c_region <| g_v rfl r_move <| g_v rfl r_move ?_
   replace hm := bnd hm
   obtain ⟨x53, hx54, hm⟩ := hm
   refine g_cn ⟨w0, M, _, _, φ⟩ (fun _ h => h) Try.call35 rfl rfl (c_slices_Contains_35 p1 Ap1_0 cp1_0 hcp1_0 (fun W hS => fp1_0 W (ok_pre (H1 := []) (R1 := []) hS (fun W h => h))) x49 _ hx54) (fun _ _ => ?_)
   refine g_nil <| d_then ?_
   refine c_cond rfl (fun h55 => ?_) (fun h55 => ?_)
   ·
    replace hm := ite_t hm h55
    refine c_region <| g_v rfl r_move <| g_v rfl (r_add rfl rfl rfl) <| g_v rfl r_assign <| g_nil <| d_normal_block <| d_then ?_
    refine c_flat [(0, .slice Ap0_0 p0.length cp0_0), (1, .slice Ap1_0 p1.length cp1_0), (5, .int .i64 (w64 (i35 + 1))), (8, .slice Ap0_0 p0.length cp0_0), (9, .int .i64 (p0.length : Int)), (10, .int .i64 i36)] ⟨rfl, rfl, rfl, rfl, rfl, rfl, trivial⟩ (fun u => ?_)
    refine c_region <| g_v rfl (r_add rfl rfl rfl) <| g_v rfl r_move <| g_nil ?_
    obtain ⟨n56, hn56, hlp⟩ := nx_inl hm hnx2
    exact d_round (n56, w64 (i35 + 1), w64 (i36 + 1)) hlp hn56 ⟨rfl, rfl, rfl, rfl, rfl, rfl, trivial⟩ (fun W h => h.phi (fun W hφ => hφ))
   replace hm := ite_f hm (bool_nt h55)
   refine c_skip <| d_normal_block <| d_then <| c_region <| g_v rfl (r_add rfl rfl rfl) <| g_v rfl r_move <| g_nil ?_
   obtain ⟨n57, hn57, hlp⟩ := nx_inl hm hnx2
   exact d_round (n57, i35, w64 (i36 + 1)) hlp hn57 ⟨rfl, rfl, rfl, rfl, rfl, rfl, trivial⟩ (fun W h => h.phi (fun W hφ => hφ))
  replace hm := ite_f hm (of_decide_eq_false h48)
  refine c_exit <| d_exit_then <| d_exit_then <| d_exit_block ?_
  replace hm := nx_out (C := (fun e : Int => m_raft_Majority_j1 p0 e = some r)) hm hnx2 hr2
  exact d_round i35 hm Nat.zero_lt_one ⟨rfl, rfl, trivial⟩ (fun W h => h.phi (fun W hφ => hφ))
 unfold m_raft_Majority_j1 at hm
 refine d_flat [(0, .slice Ap0_0 p0.length cp0_0), (5, .int .i64 i24)] ⟨rfl, rfl, trivial⟩ (fun u => ?_)
 refine d_sta ⟨w0, M, H, R, φ⟩ (fun _ h => h) <| d_then <| c_seq <| c_region <| g_v rfl r_move <| g_v rfl (r_mul rfl rfl rfl) <| g_v rfl r_move <| g_v rfl (r_lenL Try.underlying23 rfl) <| g_v rfl (r_gtr rfl rfl) <| g_v rfl r_assign ?_
 refine g_nil <| d_then <| c_ret ?_
 cases hm
 exact d_retC () Try.results13 (res_tmp (res_nil rfl)) trivial (fun W h => ok_pre (H1 := []) (R1 := []) h (fun W hφ => hφ)) (.inr rfl)
theorem bld36_12 (z0 : Int) (z1 : Int) : ∀ W, (Instr.build 36 #[(0, .int .i64 z0), (1, .int .i64 z1)]).run Try.prog W = .ok (.agg #[.int .i64 z0, .int .i64 z1, .string (⟨#[]⟩ : ByteArray)]) W := fun _ => by kernel_rfl
theorem lit36_13 (z0 : Int) (z1 : Int) (z2 : ByteArray) : Try.prog.builtSlice 36 1 [(0, .agg #[.int .i64 z0, .int .i64 z1, .string z2])] = some #[.int .i64 z0, .int .i64 z1, .string z2] := by kernel_rfl
noncomputable def m_plog_Add (p0 : GLog) (p1 : List GEntry) : Option GLog :=
  (cutHi p0.fEntries (p0.fEntries.length : Int)).bind fun l4 =>
  (app 32 l4 p1).bind fun l5 =>
  some (⟨p0.fBase, p0.fBaseTerm, l5⟩ : GLog)
theorem c_plog_Add {w0 : World} {M : Nat → Prop} {H : List (Nat × Nat × Obj)} {R : List (Nat × Row)} {φ : World → Prop} (p0 : GLog) (Ap0_0 : Option Addr) (cp0_0 : Nat) (hcp0_0 : p0.fEntries.length ≤ cp0_0) (fp0_0 : ∀ W, φ W → Cl W Ap0_0 (p0.fEntries.flatMap GEntry.enc)) (p1 : List GEntry) (Ap1_0 : Option Addr) (cp1_0 : Nat) (hcp1_0 : p1.length ≤ cp1_0) (fp1_0 : ∀ W, φ W → Cl W Ap1_0 (p1.flatMap GEntry.enc)) (r : GLog) (hm : m_plog_Add p0 p1 = some r) :
    Cn Try.prog 44 #[.agg #[.int .i64 p0.fBase, .int .i64 p0.fBaseTerm, .slice Ap0_0 p0.fEntries.length cp0_0], .slice Ap1_0 p1.length cp1_0] ⟨w0, M, H, R, φ⟩ (fun x : Option Addr × Nat => .agg #[.int .i64 r.fBase, .int .i64 r.fBaseTerm, .slice x.1 r.fEntries.length x.2]) (fun x => r.fEntries.length ≤ x.2) (fun x => ⟨w0, M, H, R, fun W => φ W ∧ Cl W x.1 (r.fEntries.flatMap GEntry.enc)⟩) := by
 unfold m_plog_Add at hm
 refine cn_intro (fn := Try.f44) (N := 18) Try.func44 rfl Try.ntmps44 rfl <| c_seq <| c_region ?_
 refine g_e rfl (e_box 100020 rfl) (fun g1 _ => ?_)
 refine g_e rfl (e_alloc 100040 Try.zeroValue38) (fun g2 _ => ?_)
 refine g_nil <| d_then <| c_seq <| c_region <| g_v rfl (r_field (n := 2) Try.underlying38 rfl Try.sizeOf22 rfl rfl) <| g_v rfl (r_load (tag := 100020) rfl rfl rfl Try.isAgg22) <| g_v rfl (r_field (n := 2) Try.underlying38 rfl Try.sizeOf22 rfl rfl) <| g_v rfl (r_load (tag := 100020) rfl rfl rfl Try.isAgg22) <| g_v rfl (r_lenL Try.underlying22 rfl) <| g_v rfl (r_field (n := 2) Try.underlying38 rfl Try.sizeOf22 rfl rfl) ?_
 refine g_v rfl (r_load (tag := 100020) rfl rfl rfl Try.isAgg22) <| g_v rfl (r_lenL Try.underlying22 rfl) ?_
 replace hm := bnd hm
 obtain ⟨l4, hl4, hm⟩ := hm
 have f3 := fun (W : World) (h : φ W) => cl_cutHi (enc := GEntry.enc) (sz := 3) (fun _ => rfl) hl4 (fp0_0 W h)
 refine g_v rfl (r_lcutFull Try.underlying22 Try.sizeOf36 rfl hcp0_0 rfl rfl hl4) <| g_v rfl r_move ?_
 replace hm := bnd hm
 obtain ⟨l5, hl5, hm⟩ := hm
 refine g_e rfl (e_appF (enc := GEntry.enc) (l := l4) (l1 := p1) (l2 := l5) Try.underlying22 inf36_7 rfl (by decide) (by decide) (fun _ => rfl) (fun _ => rfl) rfl (fun W h => f3 W h) rfl (fun W h => fp1_0 W h) hl5) (fun ⟨A6, c7⟩ hc7 => ?_)
 refine g_abs (fun φ9 q9' => ?_)
 have q9 : ∀ W, φ9 W → φ W := fun W h => (q9' W h).1
 have f8 := fun (W : World) (h : φ9 W) => (q9' W h).2
 refine g_v rfl (r_field (n := 2) Try.underlying38 rfl Try.sizeOf22 rfl rfl) <| g_storeL (tag := 100020) rfl rfl rfl rfl Try.sizeOf22 rfl rfl <| g_nil <| d_then ?_
 refine c_flat [(2, .pointer (some ⟨g1, 0, none⟩)), (4, .pointer (some ⟨g2, 0, none⟩))] ⟨rfl, rfl, trivial⟩ (fun u => ?_)
 refine c_sta ⟨w0, M, (100040, g2, .cells #[.int .i64 0, .int .i64 0, .slice none 0 0] 38 (0, 0)) :: (100020, g1, .cells #[.int .i64 p0.fBase, .int .i64 p0.fBaseTerm, .slice A6 l5.length c7] 38 (0, 0)) :: H, R, φ9⟩ (fun _ h => h) <| c_seq <| c_region <| g_v rfl (r_loadA (tag := 100020) rfl rfl Try.isAgg38 Try.sizeOf38 rfl rfl) <| g_storeL (tag := 100040) rfl rfl rfl rfl Try.sizeOf38 rfl rfl <| g_nil <| d_then <| c_ret ?_
 cases hm
 exact d_retC (A6, c7) Try.results44 (res_agg (tag := 100040) rfl rfl Try.isAgg38 Try.sizeOf38 (res_nil rfl)) hc7 (fun W h => ok_pre (H1 := [_, _]) (R1 := []) h (fun W hφ => ⟨(q9 _ hφ), (fun W h => f8 W h) W hφ⟩)) (.inr rfl)
noncomputable def m_raft_state_last (p0 : Graft_state) : Option (Int × Int) :=
  (m_plog_Last p0.fRaft.fHard.fLog).bind fun x2 =>
  (m_plog_Term p0.fRaft.fHard.fLog x2).bind fun (z7 : Int × Bool) =>
  some (x2, z7.1)
theorem c_raft_state_last {w0 : World} {M : Nat → Prop} {H : List (Nat × Nat × Obj)} {R : List (Nat × Row)} {φ : World → Prop} (p0 : Graft_state) (Ap0_0 : Option Addr) (cp0_0 : Nat) (hcp0_0 : p0.fRaft.fHard.fVoters.length ≤ cp0_0) (fp0_0 : ∀ W, (Sta.mk w0 M H R φ).ok W → Cl W Ap0_0 (p0.fRaft.fHard.fVoters.flatMap (fun x : Int => [Value.int .i64 x]))) (Ap0_1 : Option Addr) (cp0_1 : Nat) (hcp0_1 : p0.fRaft.fHard.fLog.fEntries.length ≤ cp0_1) (fp0_1 : ∀ W, (Sta.mk w0 M H R φ).ok W → Cl W Ap0_1 (p0.fRaft.fHard.fLog.fEntries.flatMap GEntry.enc)) (Ap0_2 : Option Addr) (cp0_2 : Nat) (hcp0_2 : p0.fRaft.fVotes.length ≤ cp0_2) (fp0_2 : ∀ W, (Sta.mk w0 M H R φ).ok W → Cl W Ap0_2 (p0.fRaft.fVotes.flatMap (fun x : Int => [Value.int .i64 x]))) (Ap0_3 : Option Addr) (cp0_3 : Nat) (hcp0_3 : p0.fRaft.fMarks.length ≤ cp0_3) (fp0_3 : ∀ W, (Sta.mk w0 M H R φ).ok W → Cl W Ap0_3 (p0.fRaft.fMarks.flatMap GMark.enc)) (r : Int × Int) (hm : m_raft_state_last p0 = some r) :
    Cn Try.prog 42 #[.agg #[.int .i64 p0.fRaft.fMe, .int .i64 p0.fRaft.fRole, .int .i64 p0.fRaft.fLeader, .int .i64 p0.fRaft.fCommit, .int .i64 p0.fRaft.fLeft, .int .i64 p0.fRaft.fHard.fTerm, .int .i64 p0.fRaft.fHard.fVote, .slice Ap0_0 p0.fRaft.fHard.fVoters.length cp0_0, .string p0.fRaft.fHard.fSnap, .int .i64 p0.fRaft.fHard.fLog.fBase, .int .i64 p0.fRaft.fHard.fLog.fBaseTerm, .slice Ap0_1 p0.fRaft.fHard.fLog.fEntries.length cp0_1, .slice Ap0_2 p0.fRaft.fVotes.length cp0_2, .slice Ap0_3 p0.fRaft.fMarks.length cp0_3]] ⟨w0, M, H, R, φ⟩ (fun x : Unit => .tuple #[.int .i64 r.1, .int .i64 r.2]) (fun x => True) (fun x => ⟨w0, M, H, R, φ⟩) := by
 unfold m_raft_state_last at hm
 refine cn_intro (fn := Try.f42) (N := 23) Try.func42 rfl Try.ntmps42 rfl <| c_seq <| c_region ?_
 refine g_e rfl (e_box 100010 rfl) (fun g1 _ => ?_)
 refine g_v rfl r_assign <| g_v rfl r_assign <| g_nil <| d_then <| c_seq <| c_region <| g_v rfl (r_field (n := 0) Try.underlying84 rfl Try.sizeOf43 rfl rfl) <| g_v rfl (r_field (n := 5) Try.underlying43 rfl Try.sizeOf40 rfl rfl) <| g_v rfl (r_field (n := 9) Try.underlying40 rfl Try.sizeOf38 rfl rfl) <| g_v rfl (r_loadA (tag := 100010) rfl rfl Try.isAgg38 Try.sizeOf38 rfl rfl) ?_
 replace hm := bnd hm
 obtain ⟨x2, hx3, hm⟩ := hm
 refine g_cn ⟨w0, M, _, _, φ⟩ (fun _ h => h) Try.call21 rfl rfl (c_plog_Last p0.fRaft.fHard.fLog Ap0_1 cp0_1 hcp0_1 (fun W hS => fp0_1 W (ok_pre (H1 := [_]) (R1 := []) hS (fun W h => h))) _ hx3) (fun _ _ => ?_)
 refine g_v rfl r_assign <| g_nil <| d_then ?_
 refine c_flat [(1, .pointer (some ⟨g1, 0, none⟩)), (4, .int .i64 x2)] ⟨rfl, rfl, trivial⟩ (fun u => ?_)
 refine c_sta ⟨w0, M, (100010, g1, .cells #[.int .i64 p0.fRaft.fMe, .int .i64 p0.fRaft.fRole, .int .i64 p0.fRaft.fLeader, .int .i64 p0.fRaft.fCommit, .int .i64 p0.fRaft.fLeft, .int .i64 p0.fRaft.fHard.fTerm, .int .i64 p0.fRaft.fHard.fVote, .slice Ap0_0 p0.fRaft.fHard.fVoters.length cp0_0, .string p0.fRaft.fHard.fSnap, .int .i64 p0.fRaft.fHard.fLog.fBase, .int .i64 p0.fRaft.fHard.fLog.fBaseTerm, .slice Ap0_1 p0.fRaft.fHard.fLog.fEntries.length cp0_1, .slice Ap0_2 p0.fRaft.fVotes.length cp0_2, .slice Ap0_3 p0.fRaft.fMarks.length cp0_3] 84 (0, 0)) :: H, R, φ⟩ (fun _ h => h) <| c_seq <| c_region <| g_v rfl (r_field (n := 0) Try.underlying84 rfl Try.sizeOf43 rfl rfl) <| g_v rfl (r_field (n := 5) Try.underlying43 rfl Try.sizeOf40 rfl rfl) <| g_v rfl (r_field (n := 9) Try.underlying40 rfl Try.sizeOf38 rfl rfl) <| g_v rfl (r_loadA (tag := 100010) rfl rfl Try.isAgg38 Try.sizeOf38 rfl rfl) <| g_v rfl r_move ?_
 replace hm := bnd hm
 obtain ⟨⟨x4, x5⟩, hx6, hm⟩ := hm
 refine g_cn ⟨w0, M, _, _, φ⟩ (fun _ h => h) Try.call67 rfl rfl (c_plog_Term p0.fRaft.fHard.fLog Ap0_1 cp0_1 hcp0_1 (fun W hS => fp0_1 W (ok_pre (H1 := [_]) (R1 := []) hS (fun W h => h))) x2 _ hx6) (fun _ _ => ?_)
 refine g_v rfl r_move <| g_v rfl (r_extract rfl rfl) <| g_v rfl (r_extract rfl rfl) <| g_v rfl r_assign <| g_v rfl r_assign <| g_nil <| d_then ?_
 refine c_flat [(4, .int .i64 x2), (5, .int .i64 x4)] ⟨rfl, rfl, trivial⟩ (fun u => ?_)
 refine c_seq <| c_region <| g_v rfl r_move <| g_v rfl r_move <| g_v rfl r_assign <| g_v rfl r_assign <| g_nil <| d_then <| c_ret ?_
 cases hm
 exact d_retC () Try.results42 (res_tmp (res_tmp (res_nil rfl))) trivial (fun W h => ok_pre (H1 := [_]) (R1 := []) h (fun W hφ => hφ)) (.inr rfl)
noncomputable def m_raft_state_others_c1 (p0 : Int) (o0 : Graft_state) : Option Bool :=
  some (decide (p0 = o0.fRaft.fMe))
theorem c_raft_state_others_c1 {w0 : World} {M : Nat → Prop} {H : List (Nat × Nat × Obj)} {R : List (Nat × Row)} {φ : World → Prop} (p0 : Int) (go0 : Nat) (o0 : Graft_state) (Ao0_0 : Option Addr) (co0_0 : Nat) (hco0_0 : o0.fRaft.fHard.fVoters.length ≤ co0_0) (fo0_0 : ∀ W, φ W → Cl W Ao0_0 (o0.fRaft.fHard.fVoters.flatMap (fun x : Int => [Value.int .i64 x]))) (Ao0_1 : Option Addr) (co0_1 : Nat) (hco0_1 : o0.fRaft.fHard.fLog.fEntries.length ≤ co0_1) (fo0_1 : ∀ W, φ W → Cl W Ao0_1 (o0.fRaft.fHard.fLog.fEntries.flatMap GEntry.enc)) (Ao0_2 : Option Addr) (co0_2 : Nat) (hco0_2 : o0.fRaft.fVotes.length ≤ co0_2) (fo0_2 : ∀ W, φ W → Cl W Ao0_2 (o0.fRaft.fVotes.flatMap (fun x : Int => [Value.int .i64 x]))) (Ao0_3 : Option Addr) (co0_3 : Nat) (hco0_3 : o0.fRaft.fMarks.length ≤ co0_3) (fo0_3 : ∀ W, φ W → Cl W Ao0_3 (o0.fRaft.fMarks.flatMap GMark.enc)) (r : Bool) (hm : m_raft_state_others_c1 p0 o0 = some r) :
    Cn Try.prog 84 #[.int .i64 p0, .pointer (some ⟨go0, 0, none⟩)] ⟨w0, M, (1000, go0, .cells #[.int .i64 o0.fRaft.fMe, .int .i64 o0.fRaft.fRole, .int .i64 o0.fRaft.fLeader, .int .i64 o0.fRaft.fCommit, .int .i64 o0.fRaft.fLeft, .int .i64 o0.fRaft.fHard.fTerm, .int .i64 o0.fRaft.fHard.fVote, .slice Ao0_0 o0.fRaft.fHard.fVoters.length co0_0, .string o0.fRaft.fHard.fSnap, .int .i64 o0.fRaft.fHard.fLog.fBase, .int .i64 o0.fRaft.fHard.fLog.fBaseTerm, .slice Ao0_1 o0.fRaft.fHard.fLog.fEntries.length co0_1, .slice Ao0_2 o0.fRaft.fVotes.length co0_2, .slice Ao0_3 o0.fRaft.fMarks.length co0_3] 84 (0, 0)) :: H, R, φ⟩ (fun x : Unit => .bool r) (fun x => True) (fun x => ⟨w0, M, (1000, go0, .cells #[.int .i64 o0.fRaft.fMe, .int .i64 o0.fRaft.fRole, .int .i64 o0.fRaft.fLeader, .int .i64 o0.fRaft.fCommit, .int .i64 o0.fRaft.fLeft, .int .i64 o0.fRaft.fHard.fTerm, .int .i64 o0.fRaft.fHard.fVote, .slice Ao0_0 o0.fRaft.fHard.fVoters.length co0_0, .string o0.fRaft.fHard.fSnap, .int .i64 o0.fRaft.fHard.fLog.fBase, .int .i64 o0.fRaft.fHard.fLog.fBaseTerm, .slice Ao0_1 o0.fRaft.fHard.fLog.fEntries.length co0_1, .slice Ao0_2 o0.fRaft.fVotes.length co0_2, .slice Ao0_3 o0.fRaft.fMarks.length co0_3] 84 (0, 0)) :: H, R, φ⟩) := by
 unfold m_raft_state_others_c1 at hm
 refine cn_intro (fn := Try.f84) (N := 9) Try.func84 rfl Try.ntmps84 rfl <| c_seq <| c_region <| g_v rfl r_assign <| g_nil <| d_then <| c_seq <| c_region <| g_v rfl r_move <| g_v rfl (r_field (n := 0) Try.underlying84 rfl Try.sizeOf43 rfl rfl) ?_
 refine g_v rfl (r_field (n := 0) Try.underlying43 rfl Try.sizeOf3 rfl rfl) <| g_v rfl (r_load (tag := 1000) rfl rfl rfl Try.isAgg3) <| g_v rfl (r_eql rfl rfl) <| g_v rfl r_assign <| g_nil <| d_then <| c_ret ?_
 cases hm
 exact d_retC () Try.results84 (res_tmp (res_nil rfl)) trivial (fun W h => h.phi (fun W hφ => hφ)) (.inr rfl)
noncomputable def m_slices_IndexFunc_89_j1  : Option Int :=
  some (-1)
noncomputable def m_slices_IndexFunc_89_s2 (p0 : List Int) (o0 : Graft_state) (i30 : Int) : Option (Int ⊕ (Unit ⊕ Int)) :=
  if i30 < (p0.length : Int) then
    (at_ p0 i30).bind fun x42 =>
    (m_raft_state_others_c1 x42 o0).bind fun x46 =>
    if x46 = true then
      some (.inr (.inr i30))
    else
      some (.inl (w64 (i30 + 1)))
  else
    some (.inr (.inl ()))
noncomputable def m_slices_IndexFunc_89 (p0 : List Int) (o0 : Graft_state) : Option Int :=
  (loop (fun s => m_slices_IndexFunc_89_s2 p0 o0 s) 0).bind fun e => Sum.elim (fun e => m_slices_IndexFunc_89_j1) (fun x => some x) e
theorem c_slices_IndexFunc_89 {w0 : World} {M : Nat → Prop} {H : List (Nat × Nat × Obj)} {R : List (Nat × Row)} {φ : World → Prop} (p0 : List Int) (Ap0_0 : Option Addr) (cp0_0 : Nat) (hcp0_0 : p0.length ≤ cp0_0) (fp0_0 : ∀ W, (Sta.mk w0 M H R φ).ok W → Cl W Ap0_0 (p0.flatMap (fun x : Int => [Value.int .i64 x]))) (go0 : Nat) (o0 : Graft_state) (Ao0_0 : Option Addr) (co0_0 : Nat) (hco0_0 : o0.fRaft.fHard.fVoters.length ≤ co0_0) (fo0_0 : ∀ W, φ W → Cl W Ao0_0 (o0.fRaft.fHard.fVoters.flatMap (fun x : Int => [Value.int .i64 x]))) (Ao0_1 : Option Addr) (co0_1 : Nat) (hco0_1 : o0.fRaft.fHard.fLog.fEntries.length ≤ co0_1) (fo0_1 : ∀ W, φ W → Cl W Ao0_1 (o0.fRaft.fHard.fLog.fEntries.flatMap GEntry.enc)) (Ao0_2 : Option Addr) (co0_2 : Nat) (hco0_2 : o0.fRaft.fVotes.length ≤ co0_2) (fo0_2 : ∀ W, φ W → Cl W Ao0_2 (o0.fRaft.fVotes.flatMap (fun x : Int => [Value.int .i64 x]))) (Ao0_3 : Option Addr) (co0_3 : Nat) (hco0_3 : o0.fRaft.fMarks.length ≤ co0_3) (fo0_3 : ∀ W, φ W → Cl W Ao0_3 (o0.fRaft.fMarks.flatMap GMark.enc)) (r : Int) (hm : m_slices_IndexFunc_89 p0 o0 = some r) :
    Cn Try.prog 89 #[.slice Ap0_0 p0.length cp0_0, .func (.func 84) #[] #[.pointer (some ⟨go0, 0, none⟩)]] ⟨w0, M, (1000, go0, .cells #[.int .i64 o0.fRaft.fMe, .int .i64 o0.fRaft.fRole, .int .i64 o0.fRaft.fLeader, .int .i64 o0.fRaft.fCommit, .int .i64 o0.fRaft.fLeft, .int .i64 o0.fRaft.fHard.fTerm, .int .i64 o0.fRaft.fHard.fVote, .slice Ao0_0 o0.fRaft.fHard.fVoters.length co0_0, .string o0.fRaft.fHard.fSnap, .int .i64 o0.fRaft.fHard.fLog.fBase, .int .i64 o0.fRaft.fHard.fLog.fBaseTerm, .slice Ao0_1 o0.fRaft.fHard.fLog.fEntries.length co0_1, .slice Ao0_2 o0.fRaft.fVotes.length co0_2, .slice Ao0_3 o0.fRaft.fMarks.length co0_3] 84 (0, 0)) :: H, R, φ⟩ (fun x : Unit => .int .i64 r) (fun x => True) (fun x => ⟨w0, M, (1000, go0, .cells #[.int .i64 o0.fRaft.fMe, .int .i64 o0.fRaft.fRole, .int .i64 o0.fRaft.fLeader, .int .i64 o0.fRaft.fCommit, .int .i64 o0.fRaft.fLeft, .int .i64 o0.fRaft.fHard.fTerm, .int .i64 o0.fRaft.fHard.fVote, .slice Ao0_0 o0.fRaft.fHard.fVoters.length co0_0, .string o0.fRaft.fHard.fSnap, .int .i64 o0.fRaft.fHard.fLog.fBase, .int .i64 o0.fRaft.fHard.fLog.fBaseTerm, .slice Ao0_1 o0.fRaft.fHard.fLog.fEntries.length co0_1, .slice Ao0_2 o0.fRaft.fVotes.length co0_2, .slice Ao0_3 o0.fRaft.fMarks.length co0_3] 84 (0, 0)) :: H, R, φ⟩) := by
 unfold m_slices_IndexFunc_89 at hm
 refine cn_intro (fn := Try.f89) (N := 19) Try.func89 rfl Try.ntmps89 rfl <| c_seq <| c_region <| g_v rfl r_assign <| g_nil <| d_then <| c_seq <| c_seq <| c_region <| g_v rfl r_move ?_
 refine g_v rfl (r_lenL Try.underlying23 rfl) <| g_v rfl r_move <| g_nil <| d_then ?_
 refine c_cut (ι := Unit) [] (fun _ => []) (fun _ => ⟨w0, M, (1000, go0, .cells #[.int .i64 o0.fRaft.fMe, .int .i64 o0.fRaft.fRole, .int .i64 o0.fRaft.fLeader, .int .i64 o0.fRaft.fCommit, .int .i64 o0.fRaft.fLeft, .int .i64 o0.fRaft.fHard.fTerm, .int .i64 o0.fRaft.fHard.fVote, .slice Ao0_0 o0.fRaft.fHard.fVoters.length co0_0, .string o0.fRaft.fHard.fSnap, .int .i64 o0.fRaft.fHard.fLog.fBase, .int .i64 o0.fRaft.fHard.fLog.fBaseTerm, .slice Ao0_1 o0.fRaft.fHard.fLog.fEntries.length co0_1, .slice Ao0_2 o0.fRaft.fVotes.length co0_2, .slice Ao0_3 o0.fRaft.fMarks.length co0_3] 84 (0, 0)) :: H, R, φ⟩) (fun _ => m_slices_IndexFunc_89_j1 = some r) ?_ (fun _ u hm => ?_)
 ·
  refine c_block ?_
  replace hm := bnd hm
  obtain ⟨out2, hl2, hr2⟩ := hm
  obtain ⟨n40', hl2⟩ := loop_lp hl2
  refine c_loopU (ι := Nat × Int) [0, 1, 7, 8] (fun ⟨n40, i30⟩ => [(8, .int .i64 i30)]) (fun ⟨n40, i30⟩ => ⟨w0, M, (1000, go0, .cells #[.int .i64 o0.fRaft.fMe, .int .i64 o0.fRaft.fRole, .int .i64 o0.fRaft.fLeader, .int .i64 o0.fRaft.fCommit, .int .i64 o0.fRaft.fLeft, .int .i64 o0.fRaft.fHard.fTerm, .int .i64 o0.fRaft.fHard.fVote, .slice Ao0_0 o0.fRaft.fHard.fVoters.length co0_0, .string o0.fRaft.fHard.fSnap, .int .i64 o0.fRaft.fHard.fLog.fBase, .int .i64 o0.fRaft.fHard.fLog.fBaseTerm, .slice Ao0_1 o0.fRaft.fHard.fLog.fEntries.length co0_1, .slice Ao0_2 o0.fRaft.fVotes.length co0_2, .slice Ao0_3 o0.fRaft.fMarks.length co0_3] 84 (0, 0)) :: H, R, φ⟩) (fun ⟨n40, i30⟩ => Lp (fun s => m_slices_IndexFunc_89_s2 p0 o0 s) n40 i30 out2) (fun ⟨n40, i30⟩ => n40) (n40', 0) hl2 ⟨rfl, rfl, rfl, rfl, trivial⟩ (fun W h => h.phi (fun W hφ => hφ)) (fun ⟨n40, i30⟩ u hlp => ?_)
  obtain ⟨o2, hm, hnx2⟩ := lp_step hlp
  clear hlp
  replace hm : m_slices_IndexFunc_89_s2 p0 o0 i30 = some o2 := hm
  unfold m_slices_IndexFunc_89_s2 at hm
  refine c_flat [(0, .slice Ap0_0 p0.length cp0_0), (1, .func (.func 84) #[] #[.pointer (some ⟨go0, 0, none⟩)]), (7, .int .i64 (p0.length : Int)), (8, .int .i64 i30)] ⟨rfl, rfl, rfl, rfl, trivial⟩ (fun u => ?_)
  refine c_sta ⟨w0, M, (1000, go0, .cells #[.int .i64 o0.fRaft.fMe, .int .i64 o0.fRaft.fRole, .int .i64 o0.fRaft.fLeader, .int .i64 o0.fRaft.fCommit, .int .i64 o0.fRaft.fLeft, .int .i64 o0.fRaft.fHard.fTerm, .int .i64 o0.fRaft.fHard.fVote, .slice Ao0_0 o0.fRaft.fHard.fVoters.length co0_0, .string o0.fRaft.fHard.fSnap, .int .i64 o0.fRaft.fHard.fLog.fBase, .int .i64 o0.fRaft.fHard.fLog.fBaseTerm, .slice Ao0_1 o0.fRaft.fHard.fLog.fEntries.length co0_1, .slice Ao0_2 o0.fRaft.fVotes.length co0_2, .slice Ao0_3 o0.fRaft.fMarks.length co0_3] 84 (0, 0)) :: H, R, φ⟩ (fun _ h => h) <| c_seq <| c_region <| g_v rfl (r_lss rfl rfl) <| g_nil <| d_then <| c_seq ?_
  refine c_cond rfl (fun h41 => ?_) (fun h41 => ?_)
  ·
   replace hm := ite_t hm (of_decide_eq_true h41)
   refine c_skip <| d_then <| c_seq <| c_block <| c_seq <| c_region <| g_v rfl r_move <| g_v rfl r_assign <| g_nil <| d_then ?_
   refine c_seq <| c_region ?_
   iterate 3 refine g_v rfl r_move ?_
   replace hm := bnd hm
   obtain ⟨x42, hx42, hm⟩ := hm
   refine g_know _ (fun W hS => cl_at (p := (Sta.mk w0 M H R φ).ok) (sz := 1) (fun _ => rfl) (by decide) (ok_pre (H1 := [_]) (R1 := []) hS (fun W h => h)) fp0_0 hx42) ?_
   rintro ⟨ad43, hA45, f44⟩
   refine g_v rfl (r_ix Try.underlying23 Try.sizeOf3 rfl hA45 rfl hx42) <| g_v rfl (r_ld rfl Try.isAgg3 (fun W hS => Cl.head (f44 W (ok_pre (H1 := [_]) (R1 := []) hS (fun W h => h))))) ?_
   replace hm := bnd hm
   obtain ⟨x46, hx47, hm⟩ := hm
   refine g_cnv ⟨w0, M, (1000, go0, .cells #[.int .i64 o0.fRaft.fMe, .int .i64 o0.fRaft.fRole, .int .i64 o0.fRaft.fLeader, .int .i64 o0.fRaft.fCommit, .int .i64 o0.fRaft.fLeft, .int .i64 o0.fRaft.fHard.fTerm, .int .i64 o0.fRaft.fHard.fVote, .slice Ao0_0 o0.fRaft.fHard.fVoters.length co0_0, .string o0.fRaft.fHard.fSnap, .int .i64 o0.fRaft.fHard.fLog.fBase, .int .i64 o0.fRaft.fHard.fLog.fBaseTerm, .slice Ao0_1 o0.fRaft.fHard.fLog.fEntries.length co0_1, .slice Ao0_2 o0.fRaft.fVotes.length co0_2, .slice Ao0_3 o0.fRaft.fMarks.length co0_3] 84 (0, 0)) :: H, R, φ⟩ (fun W h => (ok_front (t := 1000) (t' := 1000) h rfl)) Try.call84 rfl rfl rfl (c_raft_state_others_c1 x42 go0 o0 Ao0_0 co0_0 hco0_0 (fun W h => fo0_0 W h) Ao0_1 co0_1 hco0_1 (fun W h => fo0_1 W h) Ao0_2 co0_2 hco0_2 (fun W h => fo0_2 W h) Ao0_3 co0_3 hco0_3 (fun W h => fo0_3 W h) _ hx47) (fun _ _ => ?_)
   refine g_sta _ (fun W h => (ok_front (t := 1000) (t' := 1000) h rfl)) <| g_nil <| d_then ?_
   refine c_flat [(0, .slice Ap0_0 p0.length cp0_0), (1, .func (.func 84) #[] #[.pointer (some ⟨go0, 0, none⟩)]), (5, .int .i64 i30), (7, .int .i64 (p0.length : Int)), (8, .int .i64 i30), (16, .bool x46)] ⟨rfl, rfl, rfl, rfl, rfl, rfl, trivial⟩ (fun u => ?_)
   refine c_cond rfl (fun h48 => ?_) (fun h48 => ?_)
   ·
    replace hm := ite_t hm h48
    refine c_seq <| c_region <| g_v rfl r_move <| g_v rfl r_assign <| g_nil <| d_then <| c_ret <| d_ret_block <| d_ret_then <| d_ret_then ?_
    refine d_ret_block <| d_ret_then <| d_ret_then ?_
    replace hm := nx_out (C := (fun e : Unit ⊕ Int => Sum.elim (fun e => m_slices_IndexFunc_89_j1) (fun x => some x) e = some r)) hm hnx2 hr2
    replace hm : some i30 = some r := hm
    cases hm
    exact d_retC () Try.results89 (res_tmp (res_nil rfl)) trivial (fun W h => h.phi (fun W hφ => hφ)) (.inr rfl)
   replace hm := ite_f hm (bool_nt h48)
   refine c_skip <| d_normal_block <| d_then <| c_region <| g_v rfl (r_add rfl rfl rfl) <| g_v rfl r_move <| g_nil ?_
   obtain ⟨n49, hn49, hlp⟩ := nx_inl hm hnx2
   exact d_round (n49, w64 (i30 + 1)) hlp hn49 ⟨rfl, rfl, rfl, rfl, trivial⟩ (fun W h => h.phi (fun W hφ => hφ))
  replace hm := ite_f hm (of_decide_eq_false h41)
  refine c_exit <| d_exit_then <| d_exit_then <| d_exit_block ?_
  replace hm := nx_out (C := (fun e : Unit ⊕ Int => Sum.elim (fun e => m_slices_IndexFunc_89_j1) (fun x => some x) e = some r)) hm hnx2 hr2
  exact d_round () hm Nat.zero_lt_one trivial (fun W h => h.phi (fun W hφ => hφ))
 unfold m_slices_IndexFunc_89_j1 at hm
 refine d_flat [] trivial (fun u => ?_)
 refine d_sta ⟨w0, M, (1000, go0, .cells #[.int .i64 o0.fRaft.fMe, .int .i64 o0.fRaft.fRole, .int .i64 o0.fRaft.fLeader, .int .i64 o0.fRaft.fCommit, .int .i64 o0.fRaft.fLeft, .int .i64 o0.fRaft.fHard.fTerm, .int .i64 o0.fRaft.fHard.fVote, .slice Ao0_0 o0.fRaft.fHard.fVoters.length co0_0, .string o0.fRaft.fHard.fSnap, .int .i64 o0.fRaft.fHard.fLog.fBase, .int .i64 o0.fRaft.fHard.fLog.fBaseTerm, .slice Ao0_1 o0.fRaft.fHard.fLog.fEntries.length co0_1, .slice Ao0_2 o0.fRaft.fVotes.length co0_2, .slice Ao0_3 o0.fRaft.fMarks.length co0_3] 84 (0, 0)) :: H, R, φ⟩ (fun _ h => h) <| d_then <| c_seq <| c_region <| g_v rfl r_assign <| g_nil <| d_then <| c_ret ?_
 cases hm
 exact d_retC () Try.results89 (res_tmp (res_nil rfl)) trivial (fun W h => h.phi (fun W hφ => hφ)) (.inr rfl)
noncomputable def m_slices_DeleteFunc_83_j1  (l51 : List Int) (i54 : Int) : Option (List Int) :=
  (cutLo l51 i54).bind fun l55 =>
  (cutHi l51 i54).bind fun l56 =>
  some l56
noncomputable def m_slices_DeleteFunc_83_s2 (o0 : Graft_state) (l78 : List Int) (i81 : Int) (i82 : Int) : Option (((List Int) × Int × Int) ⊕ ((List Int) × Int)) :=
  if i82 < (l78.length : Int) then
    (at_ l78 i82).bind fun x105 =>
    (m_raft_state_others_c1 x105 o0).bind fun x109 =>
    if x109 = true then
      some (.inl (l78, i81, w64 (i82 + 1)))
    else
      (at_ l78 i81).bind fun x112 =>
      (setAt l78 i81 x105).bind fun l116 =>
      some (.inl (l116, w64 (i81 + 1), w64 (i82 + 1)))
  else
    some (.inr (l78, i81))
noncomputable def m_slices_DeleteFunc_83 (p0 : List Int) (o0 : Graft_state) : Option (List Int) :=
  (m_slices_IndexFunc_89 p0 o0).bind fun x1 =>
  if x1 = (-1) then
    some p0
  else
    (loop (fun s => m_slices_DeleteFunc_83_s2 o0 s.1 s.2.1 s.2.2) (p0, x1, w64 (x1 + 1))).bind fun e => m_slices_DeleteFunc_83_j1 e.1 e.2
theorem c_slices_DeleteFunc_83 {w0 : World} {M : Nat → Prop} {H : List (Nat × Nat × Obj)} {R : List (Nat × Row)} {φ : World → Prop} (p0 : List Int) (Ap0_0 : Option Addr) (cp0_0 : Nat) (hcp0_0 : p0.length ≤ cp0_0) (go0 : Nat) (o0 : Graft_state) (Ao0_0 : Option Addr) (co0_0 : Nat) (hco0_0 : o0.fRaft.fHard.fVoters.length ≤ co0_0) (fo0_0 : ∀ W, φ W → Cl W Ao0_0 (o0.fRaft.fHard.fVoters.flatMap (fun x : Int => [Value.int .i64 x]))) (Ao0_1 : Option Addr) (co0_1 : Nat) (hco0_1 : o0.fRaft.fHard.fLog.fEntries.length ≤ co0_1) (fo0_1 : ∀ W, φ W → Cl W Ao0_1 (o0.fRaft.fHard.fLog.fEntries.flatMap GEntry.enc)) (Ao0_2 : Option Addr) (co0_2 : Nat) (hco0_2 : o0.fRaft.fVotes.length ≤ co0_2) (fo0_2 : ∀ W, φ W → Cl W Ao0_2 (o0.fRaft.fVotes.flatMap (fun x : Int => [Value.int .i64 x]))) (Ao0_3 : Option Addr) (co0_3 : Nat) (hco0_3 : o0.fRaft.fMarks.length ≤ co0_3) (fo0_3 : ∀ W, φ W → Cl W Ao0_3 (o0.fRaft.fMarks.flatMap GMark.enc)) (r : (List Int)) (hm : m_slices_DeleteFunc_83 p0 o0 = some r) :
    Cn Try.prog 83 #[.slice Ap0_0 p0.length cp0_0, .func (.func 84) #[] #[.pointer (some ⟨go0, 0, none⟩)]] ⟨w0, M, (1000, go0, .cells #[.int .i64 o0.fRaft.fMe, .int .i64 o0.fRaft.fRole, .int .i64 o0.fRaft.fLeader, .int .i64 o0.fRaft.fCommit, .int .i64 o0.fRaft.fLeft, .int .i64 o0.fRaft.fHard.fTerm, .int .i64 o0.fRaft.fHard.fVote, .slice Ao0_0 o0.fRaft.fHard.fVoters.length co0_0, .string o0.fRaft.fHard.fSnap, .int .i64 o0.fRaft.fHard.fLog.fBase, .int .i64 o0.fRaft.fHard.fLog.fBaseTerm, .slice Ao0_1 o0.fRaft.fHard.fLog.fEntries.length co0_1, .slice Ao0_2 o0.fRaft.fVotes.length co0_2, .slice Ao0_3 o0.fRaft.fMarks.length co0_3] 84 (0, 0)) :: H, (1000, ⟨.slice Ap0_0 p0.length cp0_0, 3, 1, p0.length, p0.flatMap (fun x : Int => [Value.int .i64 x])⟩) :: R, φ⟩ (fun x : Option Addr × Nat => .slice x.1 r.length x.2) (fun x => r.length ≤ x.2) (fun x => ⟨w0, M, (1000, go0, .cells #[.int .i64 o0.fRaft.fMe, .int .i64 o0.fRaft.fRole, .int .i64 o0.fRaft.fLeader, .int .i64 o0.fRaft.fCommit, .int .i64 o0.fRaft.fLeft, .int .i64 o0.fRaft.fHard.fTerm, .int .i64 o0.fRaft.fHard.fVote, .slice Ao0_0 o0.fRaft.fHard.fVoters.length co0_0, .string o0.fRaft.fHard.fSnap, .int .i64 o0.fRaft.fHard.fLog.fBase, .int .i64 o0.fRaft.fHard.fLog.fBaseTerm, .slice Ao0_1 o0.fRaft.fHard.fLog.fEntries.length co0_1, .slice Ao0_2 o0.fRaft.fVotes.length co0_2, .slice Ao0_3 o0.fRaft.fMarks.length co0_3] 84 (0, 0)) :: H, (2000, ⟨.slice x.1 r.length x.2, 3, 1, r.length, r.flatMap (fun x : Int => [Value.int .i64 x])⟩) :: R, φ⟩) := by
 unfold m_slices_DeleteFunc_83 at hm
 refine cn_intro (fn := Try.f83) (N := 42) Try.func83 rfl Try.ntmps83 rfl <| c_seq <| c_region <| g_v rfl r_assign <| g_nil <| d_then <| c_seq <| c_region <| g_v rfl r_move <| g_v rfl r_move ?_
 replace hm := bnd hm
 obtain ⟨x1, hx2, hm⟩ := hm
 refine g_cn ⟨w0, M, (1000, go0, .cells #[.int .i64 o0.fRaft.fMe, .int .i64 o0.fRaft.fRole, .int .i64 o0.fRaft.fLeader, .int .i64 o0.fRaft.fCommit, .int .i64 o0.fRaft.fLeft, .int .i64 o0.fRaft.fHard.fTerm, .int .i64 o0.fRaft.fHard.fVote, .slice Ao0_0 o0.fRaft.fHard.fVoters.length co0_0, .string o0.fRaft.fHard.fSnap, .int .i64 o0.fRaft.fHard.fLog.fBase, .int .i64 o0.fRaft.fHard.fLog.fBaseTerm, .slice Ao0_1 o0.fRaft.fHard.fLog.fEntries.length co0_1, .slice Ao0_2 o0.fRaft.fVotes.length co0_2, .slice Ao0_3 o0.fRaft.fMarks.length co0_3] 84 (0, 0)) :: H, (1000, ⟨.slice Ap0_0 p0.length cp0_0, 3, 1, p0.length, p0.flatMap (fun x : Int => [Value.int .i64 x])⟩) :: R, φ⟩ (fun W h => (ok_front (t := 1000) (t' := 1000) h rfl)) Try.call89 rfl rfl (c_slices_IndexFunc_89 p0 Ap0_0 cp0_0 hcp0_0 (fun W hS => rowCl (tag := 1000) rfl W hS) go0 o0 Ao0_0 co0_0 hco0_0 (fun W h => fo0_0 W h) Ao0_1 co0_1 hco0_1 (fun W h => fo0_1 W h) Ao0_2 co0_2 hco0_2 (fun W h => fo0_2 W h) Ao0_3 co0_3 hco0_3 (fun W h => fo0_3 W h) _ hx2) (fun _ _ => ?_)
 refine g_sta _ (fun W h => (ok_front (t := 1000) (t' := 1000) h rfl)) <| g_v rfl r_assign <| g_nil <| d_then <| c_seq <| c_seq <| c_region <| g_v rfl r_move <| g_v rfl (r_eql rfl rfl) <| g_nil ?_
 refine d_then <| c_sta ⟨w0, M, (1000, go0, .cells #[.int .i64 o0.fRaft.fMe, .int .i64 o0.fRaft.fRole, .int .i64 o0.fRaft.fLeader, .int .i64 o0.fRaft.fCommit, .int .i64 o0.fRaft.fLeft, .int .i64 o0.fRaft.fHard.fTerm, .int .i64 o0.fRaft.fHard.fVote, .slice Ao0_0 o0.fRaft.fHard.fVoters.length co0_0, .string o0.fRaft.fHard.fSnap, .int .i64 o0.fRaft.fHard.fLog.fBase, .int .i64 o0.fRaft.fHard.fLog.fBaseTerm, .slice Ao0_1 o0.fRaft.fHard.fLog.fEntries.length co0_1, .slice Ao0_2 o0.fRaft.fVotes.length co0_2, .slice Ao0_3 o0.fRaft.fMarks.length co0_3] 84 (0, 0)) :: H, (1000, ⟨.slice Ap0_0 p0.length cp0_0, 3, 1, p0.length, p0.flatMap (fun x : Int => [Value.int .i64 x])⟩) :: R, φ⟩ (fun _ h => h) ?_
 refine c_cond rfl (fun h3 => ?_) (fun h3 => ?_)
 ·
  replace hm := ite_t hm (of_decide_eq_true h3)
  refine c_seq <| c_region <| g_v rfl r_move <| g_v rfl r_assign <| g_nil <| d_then ?_
  refine c_flat [(4, .slice Ap0_0 p0.length cp0_0)] ⟨rfl, trivial⟩ (fun u => ?_)
  refine c_ret <| d_ret_then ?_
  cases hm
  refine d_sta _ (fun W h => ok_frontR (t := 1000) (t' := 2000) h rfl) ?_
  exact d_retC (Ap0_0, cp0_0) Try.results83 (res_tmp (res_nil rfl)) hcp0_0 (fun W h => h.phi (fun W hφ => hφ)) (.inr rfl)
 replace hm := ite_f hm (of_decide_eq_false h3)
 refine c_skip <| d_then <| c_seq <| c_seq <| c_region <| g_v rfl r_move <| g_v rfl (r_add rfl rfl rfl) <| g_v rfl r_assign <| g_nil <| d_then ?_
 refine c_flat [(0, .slice Ap0_0 p0.length cp0_0), (1, .func (.func 84) #[] #[.pointer (some ⟨go0, 0, none⟩)]), (5, .int .i64 x1), (6, .int .i64 (w64 (x1 + 1)))] ⟨rfl, rfl, rfl, rfl, trivial⟩ (fun u => ?_)
 refine c_cut (ι := (List Int) × Int) [0, 5] (fun ⟨l51, i54⟩ => [(0, .slice Ap0_0 l51.length cp0_0), (5, .int .i64 i54)]) (fun ⟨l51, i54⟩ => ⟨w0, M, (1000, go0, .cells #[.int .i64 o0.fRaft.fMe, .int .i64 o0.fRaft.fRole, .int .i64 o0.fRaft.fLeader, .int .i64 o0.fRaft.fCommit, .int .i64 o0.fRaft.fLeft, .int .i64 o0.fRaft.fHard.fTerm, .int .i64 o0.fRaft.fHard.fVote, .slice Ao0_0 o0.fRaft.fHard.fVoters.length co0_0, .string o0.fRaft.fHard.fSnap, .int .i64 o0.fRaft.fHard.fLog.fBase, .int .i64 o0.fRaft.fHard.fLog.fBaseTerm, .slice Ao0_1 o0.fRaft.fHard.fLog.fEntries.length co0_1, .slice Ao0_2 o0.fRaft.fVotes.length co0_2, .slice Ao0_3 o0.fRaft.fMarks.length co0_3] 84 (0, 0)) :: H, (1000, ⟨.slice Ap0_0 l51.length cp0_0, 3, 1, l51.length, l51.flatMap (fun x : Int => [Value.int .i64 x])⟩) :: R, φ⟩) (fun ⟨l51, i54⟩ => m_slices_DeleteFunc_83_j1 l51 i54 = some r ∧ (l51.length ≤ cp0_0 ∧ l51.length = p0.length)) ?_ (fun ⟨l51, i54⟩ u ⟨hm, hl51⟩ => ?_)
 ·
  refine c_block ?_
  replace hm := bnd hm
  obtain ⟨out2, hl2, hr2⟩ := hm
  obtain ⟨n103', hl2⟩ := loop_lp hl2
  refine c_loopU (ι := Nat × (List Int) × Int × Int) [0, 1, 5, 6] (fun ⟨n103, l78, i81, i82⟩ => [(0, .slice Ap0_0 l78.length cp0_0), (5, .int .i64 i81), (6, .int .i64 i82)]) (fun ⟨n103, l78, i81, i82⟩ => ⟨w0, M, (1000, go0, .cells #[.int .i64 o0.fRaft.fMe, .int .i64 o0.fRaft.fRole, .int .i64 o0.fRaft.fLeader, .int .i64 o0.fRaft.fCommit, .int .i64 o0.fRaft.fLeft, .int .i64 o0.fRaft.fHard.fTerm, .int .i64 o0.fRaft.fHard.fVote, .slice Ao0_0 o0.fRaft.fHard.fVoters.length co0_0, .string o0.fRaft.fHard.fSnap, .int .i64 o0.fRaft.fHard.fLog.fBase, .int .i64 o0.fRaft.fHard.fLog.fBaseTerm, .slice Ao0_1 o0.fRaft.fHard.fLog.fEntries.length co0_1, .slice Ao0_2 o0.fRaft.fVotes.length co0_2, .slice Ao0_3 o0.fRaft.fMarks.length co0_3] 84 (0, 0)) :: H, (1000, ⟨.slice Ap0_0 l78.length cp0_0, 3, 1, l78.length, l78.flatMap (fun x : Int => [Value.int .i64 x])⟩) :: R, φ⟩) (fun ⟨n103, l78, i81, i82⟩ => Lp (fun s => m_slices_DeleteFunc_83_s2 o0 s.1 s.2.1 s.2.2) n103 (l78, i81, i82) out2 ∧ (l78.length ≤ cp0_0 ∧ l78.length = p0.length)) (fun ⟨n103, l78, i81, i82⟩ => n103) (n103', p0, x1, w64 (x1 + 1)) ⟨hl2, ⟨hcp0_0, rfl⟩⟩ ⟨rfl, rfl, rfl, rfl, trivial⟩ (fun W h => h.phi (fun W hφ => hφ)) (fun ⟨n103, l78, i81, i82⟩ u ⟨hlp, hl78⟩ => ?_)
  obtain ⟨o2, hm, hnx2⟩ := lp_step hlp
  clear hlp
  replace hm : m_slices_DeleteFunc_83_s2 o0 l78 i81 i82 = some o2 := hm
  unfold m_slices_DeleteFunc_83_s2 at hm
  refine c_flat [(0, .slice Ap0_0 l78.length cp0_0), (1, .func (.func 84) #[] #[.pointer (some ⟨go0, 0, none⟩)]), (5, .int .i64 i81), (6, .int .i64 i82)] ⟨rfl, rfl, rfl, rfl, trivial⟩ (fun u => ?_)
  refine c_sta ⟨w0, M, (1000, go0, .cells #[.int .i64 o0.fRaft.fMe, .int .i64 o0.fRaft.fRole, .int .i64 o0.fRaft.fLeader, .int .i64 o0.fRaft.fCommit, .int .i64 o0.fRaft.fLeft, .int .i64 o0.fRaft.fHard.fTerm, .int .i64 o0.fRaft.fHard.fVote, .slice Ao0_0 o0.fRaft.fHard.fVoters.length co0_0, .string o0.fRaft.fHard.fSnap, .int .i64 o0.fRaft.fHard.fLog.fBase, .int .i64 o0.fRaft.fHard.fLog.fBaseTerm, .slice Ao0_1 o0.fRaft.fHard.fLog.fEntries.length co0_1, .slice Ao0_2 o0.fRaft.fVotes.length co0_2, .slice Ao0_3 o0.fRaft.fMarks.length co0_3] 84 (0, 0)) :: H, (1000, ⟨.slice Ap0_0 l78.length cp0_0, 3, 1, l78.length, l78.flatMap (fun x : Int => [Value.int .i64 x])⟩) :: R, φ⟩ (fun _ h => h) <| c_seq <| c_seq <| c_region <| g_v rfl r_move <| g_v rfl r_move <| g_v rfl (r_lenL Try.underlying23 rfl) <| g_v rfl (r_lss rfl rfl) <| g_nil <| d_then ?_
  refine c_cond rfl (fun h104 => ?_) (fun h104 => ?_)
  ·
   replace hm := ite_t hm (of_decide_eq_true h104)
   refine c_skip <| d_then <| c_seq <| c_block <| c_seq <| c_region <| g_v rfl r_move <| g_v rfl r_move ?_
   replace hm := bnd hm
   obtain ⟨x105, hx105, hm⟩ := hm
   refine g_know _ (fun W hS => cl_at (p := (Sta.ok ⟨w0, M, (1000, go0, .cells #[.int .i64 o0.fRaft.fMe, .int .i64 o0.fRaft.fRole, .int .i64 o0.fRaft.fLeader, .int .i64 o0.fRaft.fCommit, .int .i64 o0.fRaft.fLeft, .int .i64 o0.fRaft.fHard.fTerm, .int .i64 o0.fRaft.fHard.fVote, .slice Ao0_0 o0.fRaft.fHard.fVoters.length co0_0, .string o0.fRaft.fHard.fSnap, .int .i64 o0.fRaft.fHard.fLog.fBase, .int .i64 o0.fRaft.fHard.fLog.fBaseTerm, .slice Ao0_1 o0.fRaft.fHard.fLog.fEntries.length co0_1, .slice Ao0_2 o0.fRaft.fVotes.length co0_2, .slice Ao0_3 o0.fRaft.fMarks.length co0_3] 84 (0, 0)) :: H, (1000, ⟨.slice Ap0_0 l78.length cp0_0, 3, 1, l78.length, l78.flatMap (fun x : Int => [Value.int .i64 x])⟩) :: R, φ⟩)) (sz := 1) (fun _ => rfl) (by decide) hS (fun W hS => rowCl (S := ⟨w0, M, (1000, go0, .cells #[.int .i64 o0.fRaft.fMe, .int .i64 o0.fRaft.fRole, .int .i64 o0.fRaft.fLeader, .int .i64 o0.fRaft.fCommit, .int .i64 o0.fRaft.fLeft, .int .i64 o0.fRaft.fHard.fTerm, .int .i64 o0.fRaft.fHard.fVote, .slice Ao0_0 o0.fRaft.fHard.fVoters.length co0_0, .string o0.fRaft.fHard.fSnap, .int .i64 o0.fRaft.fHard.fLog.fBase, .int .i64 o0.fRaft.fHard.fLog.fBaseTerm, .slice Ao0_1 o0.fRaft.fHard.fLog.fEntries.length co0_1, .slice Ao0_2 o0.fRaft.fVotes.length co0_2, .slice Ao0_3 o0.fRaft.fMarks.length co0_3] 84 (0, 0)) :: H, (1000, ⟨.slice Ap0_0 l78.length cp0_0, 3, 1, l78.length, l78.flatMap (fun x : Int => [Value.int .i64 x])⟩) :: R, φ⟩) (tag := 1000) rfl W hS) hx105) ?_
   rintro ⟨ad106, hA108, f107⟩
   refine g_v rfl (r_ix Try.underlying23 Try.sizeOf3 rfl hA108 rfl hx105) <| g_v rfl (r_ld rfl Try.isAgg3 (fun W hS => Cl.head (f107 W hS))) <| g_v rfl r_assign <| g_nil <| d_then ?_
   refine c_flat [(0, .slice Ap0_0 l78.length cp0_0), (1, .func (.func 84) #[] #[.pointer (some ⟨go0, 0, none⟩)]), (5, .int .i64 i81), (6, .int .i64 i82), (7, .int .i64 x105)] ⟨rfl, rfl, rfl, rfl, rfl, trivial⟩ (fun u => ?_)
   refine c_seq <| c_region <| g_v rfl r_move <| g_v rfl r_move ?_
   replace hm := bnd hm
   obtain ⟨x109, hx110, hm⟩ := hm
   refine g_cnv ⟨w0, M, (1000, go0, .cells #[.int .i64 o0.fRaft.fMe, .int .i64 o0.fRaft.fRole, .int .i64 o0.fRaft.fLeader, .int .i64 o0.fRaft.fCommit, .int .i64 o0.fRaft.fLeft, .int .i64 o0.fRaft.fHard.fTerm, .int .i64 o0.fRaft.fHard.fVote, .slice Ao0_0 o0.fRaft.fHard.fVoters.length co0_0, .string o0.fRaft.fHard.fSnap, .int .i64 o0.fRaft.fHard.fLog.fBase, .int .i64 o0.fRaft.fHard.fLog.fBaseTerm, .slice Ao0_1 o0.fRaft.fHard.fLog.fEntries.length co0_1, .slice Ao0_2 o0.fRaft.fVotes.length co0_2, .slice Ao0_3 o0.fRaft.fMarks.length co0_3] 84 (0, 0)) :: H, (1000, ⟨.slice Ap0_0 l78.length cp0_0, 3, 1, l78.length, l78.flatMap (fun x : Int => [Value.int .i64 x])⟩) :: R, φ⟩ (fun W h => (ok_front (t := 1000) (t' := 1000) h rfl)) Try.call84 rfl rfl rfl (c_raft_state_others_c1 x105 go0 o0 Ao0_0 co0_0 hco0_0 (fun W h => fo0_0 W h) Ao0_1 co0_1 hco0_1 (fun W h => fo0_1 W h) Ao0_2 co0_2 hco0_2 (fun W h => fo0_2 W h) Ao0_3 co0_3 hco0_3 (fun W h => fo0_3 W h) _ hx110) (fun _ _ => ?_)
   refine g_sta _ (fun W h => (ok_front (t := 1000) (t' := 1000) h rfl)) <| g_v rfl (r_not rfl) <| g_nil <| d_then ?_
   refine c_cond rfl (fun h111 => ?_) (fun h111 => ?_)
   ·
    have h111' : x109 = false := by revert h111; cases x109 <;> simp
    replace hm := ite_f hm (bool_nt h111')
    refine c_seq <| c_region ?_
    iterate 3 refine g_v rfl r_move ?_
    replace hm := bnd hm
    obtain ⟨x112, hx112, hm⟩ := hm
    refine g_know _ (fun W hS => cl_at (p := (Sta.ok ⟨w0, M, (1000, go0, .cells #[.int .i64 o0.fRaft.fMe, .int .i64 o0.fRaft.fRole, .int .i64 o0.fRaft.fLeader, .int .i64 o0.fRaft.fCommit, .int .i64 o0.fRaft.fLeft, .int .i64 o0.fRaft.fHard.fTerm, .int .i64 o0.fRaft.fHard.fVote, .slice Ao0_0 o0.fRaft.fHard.fVoters.length co0_0, .string o0.fRaft.fHard.fSnap, .int .i64 o0.fRaft.fHard.fLog.fBase, .int .i64 o0.fRaft.fHard.fLog.fBaseTerm, .slice Ao0_1 o0.fRaft.fHard.fLog.fEntries.length co0_1, .slice Ao0_2 o0.fRaft.fVotes.length co0_2, .slice Ao0_3 o0.fRaft.fMarks.length co0_3] 84 (0, 0)) :: H, (1000, ⟨.slice Ap0_0 l78.length cp0_0, 3, 1, l78.length, l78.flatMap (fun x : Int => [Value.int .i64 x])⟩) :: R, φ⟩)) (sz := 1) (fun _ => rfl) (by decide) hS (fun W hS => rowCl (S := ⟨w0, M, (1000, go0, .cells #[.int .i64 o0.fRaft.fMe, .int .i64 o0.fRaft.fRole, .int .i64 o0.fRaft.fLeader, .int .i64 o0.fRaft.fCommit, .int .i64 o0.fRaft.fLeft, .int .i64 o0.fRaft.fHard.fTerm, .int .i64 o0.fRaft.fHard.fVote, .slice Ao0_0 o0.fRaft.fHard.fVoters.length co0_0, .string o0.fRaft.fHard.fSnap, .int .i64 o0.fRaft.fHard.fLog.fBase, .int .i64 o0.fRaft.fHard.fLog.fBaseTerm, .slice Ao0_1 o0.fRaft.fHard.fLog.fEntries.length co0_1, .slice Ao0_2 o0.fRaft.fVotes.length co0_2, .slice Ao0_3 o0.fRaft.fMarks.length co0_3] 84 (0, 0)) :: H, (1000, ⟨.slice Ap0_0 l78.length cp0_0, 3, 1, l78.length, l78.flatMap (fun x : Int => [Value.int .i64 x])⟩) :: R, φ⟩) (tag := 1000) rfl W hS) hx112) ?_
    rintro ⟨ad113, hA115, f114⟩
    refine g_v rfl (r_ix Try.underlying23 Try.sizeOf3 rfl hA115 rfl hx112) ?_
    replace hm := bnd hm
    obtain ⟨l116, hl116, hm⟩ := hm
    refine g_stR (tag := 1000) (enc := (fun x : Int => [Value.int .i64 x])) (l := l78) (off := 0) (vs := [.int .i64 x105]) (add0 rfl) hA115 rfl rfl hx112 hl116 rfl (Nat.le_of_ble_eq_true rfl) (fun _ => rfl) rfl rfl Try.sizeOf3 ?_
    rw [show l78.length = l116.length from (setAt_lenE hl116).symm]
    have hv118 := setAt_at hl116
    have f117 := cl_at2 (p := (Sta.ok ⟨w0, M, (1000, go0, .cells #[.int .i64 o0.fRaft.fMe, .int .i64 o0.fRaft.fRole, .int .i64 o0.fRaft.fLeader, .int .i64 o0.fRaft.fCommit, .int .i64 o0.fRaft.fLeft, .int .i64 o0.fRaft.fHard.fTerm, .int .i64 o0.fRaft.fHard.fVote, .slice Ao0_0 o0.fRaft.fHard.fVoters.length co0_0, .string o0.fRaft.fHard.fSnap, .int .i64 o0.fRaft.fHard.fLog.fBase, .int .i64 o0.fRaft.fHard.fLog.fBaseTerm, .slice Ao0_1 o0.fRaft.fHard.fLog.fEntries.length co0_1, .slice Ao0_2 o0.fRaft.fVotes.length co0_2, .slice Ao0_3 o0.fRaft.fMarks.length co0_3] 84 (0, 0)) :: H, (1000, ⟨.slice Ap0_0 l116.length cp0_0, 3, 1, l116.length, l116.flatMap (fun x : Int => [Value.int .i64 x])⟩) :: R, φ⟩)) (enc := (fun x : Int => [Value.int .i64 x])) (sz := 1) (fun _ => rfl) hA115 (fun W hS => rowCl (S := ⟨w0, M, (1000, go0, .cells #[.int .i64 o0.fRaft.fMe, .int .i64 o0.fRaft.fRole, .int .i64 o0.fRaft.fLeader, .int .i64 o0.fRaft.fCommit, .int .i64 o0.fRaft.fLeft, .int .i64 o0.fRaft.fHard.fTerm, .int .i64 o0.fRaft.fHard.fVote, .slice Ao0_0 o0.fRaft.fHard.fVoters.length co0_0, .string o0.fRaft.fHard.fSnap, .int .i64 o0.fRaft.fHard.fLog.fBase, .int .i64 o0.fRaft.fHard.fLog.fBaseTerm, .slice Ao0_1 o0.fRaft.fHard.fLog.fEntries.length co0_1, .slice Ao0_2 o0.fRaft.fVotes.length co0_2, .slice Ao0_3 o0.fRaft.fMarks.length co0_3] 84 (0, 0)) :: H, (1000, ⟨.slice Ap0_0 l116.length cp0_0, 3, 1, l116.length, l116.flatMap (fun x : Int => [Value.int .i64 x])⟩) :: R, φ⟩) (tag := 1000) rfl W hS) hv118
    refine g_nil <| d_then ?_
    refine c_flat [(0, .slice Ap0_0 l116.length cp0_0), (1, .func (.func 84) #[] #[.pointer (some ⟨go0, 0, none⟩)]), (5, .int .i64 i81), (6, .int .i64 i82)] ⟨rfl, rfl, rfl, rfl, trivial⟩ (fun u => ?_)
    refine c_sta ⟨w0, M, (1000, go0, .cells #[.int .i64 o0.fRaft.fMe, .int .i64 o0.fRaft.fRole, .int .i64 o0.fRaft.fLeader, .int .i64 o0.fRaft.fCommit, .int .i64 o0.fRaft.fLeft, .int .i64 o0.fRaft.fHard.fTerm, .int .i64 o0.fRaft.fHard.fVote, .slice Ao0_0 o0.fRaft.fHard.fVoters.length co0_0, .string o0.fRaft.fHard.fSnap, .int .i64 o0.fRaft.fHard.fLog.fBase, .int .i64 o0.fRaft.fHard.fLog.fBaseTerm, .slice Ao0_1 o0.fRaft.fHard.fLog.fEntries.length co0_1, .slice Ao0_2 o0.fRaft.fVotes.length co0_2, .slice Ao0_3 o0.fRaft.fMarks.length co0_3] 84 (0, 0)) :: H, (1000, ⟨.slice Ap0_0 l116.length cp0_0, 3, 1, l116.length, l116.flatMap (fun x : Int => [Value.int .i64 x])⟩) :: R, φ⟩ (fun _ h => h) <| c_region <| g_v rfl r_move <| g_v rfl (r_add rfl rfl rfl) <| g_v rfl r_assign <| g_nil <| d_normal_block <| d_then <| c_region <| g_v rfl r_move ?_
    refine g_v rfl (r_add rfl rfl rfl) <| g_v rfl r_assign <| g_nil ?_
    obtain ⟨n119, hn119, hlp⟩ := nx_inl hm hnx2
    exact d_round (n119, l116, w64 (i81 + 1), w64 (i82 + 1)) ⟨hlp, ⟨(setAt_len hl78.1 hl116), ((setAt_lenE hl116).trans hl78.2)⟩⟩ hn119 ⟨rfl, rfl, rfl, rfl, trivial⟩ (fun W h => h.phi (fun W hφ => hφ))
   have h111' : x109 = true := by revert h111; cases x109 <;> simp
   replace hm := ite_t hm h111'
   refine c_skip <| d_normal_block <| d_then <| c_region <| g_v rfl r_move <| g_v rfl (r_add rfl rfl rfl) <| g_v rfl r_assign <| g_nil ?_
   obtain ⟨n120, hn120, hlp⟩ := nx_inl hm hnx2
   exact d_round (n120, l78, i81, w64 (i82 + 1)) ⟨hlp, ⟨hl78.1, hl78.2⟩⟩ hn120 ⟨rfl, rfl, rfl, rfl, trivial⟩ (fun W h => h.phi (fun W hφ => hφ))
  replace hm := ite_f hm (of_decide_eq_false h104)
  refine c_exit <| d_exit_then <| d_exit_then <| d_exit_block ?_
  replace hm := nx_out (C := (fun e : (List Int) × Int => m_slices_DeleteFunc_83_j1 e.1 e.2 = some r)) hm hnx2 hr2
  exact d_round (l78, i81) ⟨hm, ⟨hl78.1, hl78.2⟩⟩ Nat.zero_lt_one ⟨rfl, rfl, trivial⟩ (fun W h => h.phi (fun W hφ => hφ))
 unfold m_slices_DeleteFunc_83_j1 at hm
 refine d_flat [(0, .slice Ap0_0 l51.length cp0_0), (5, .int .i64 i54)] ⟨rfl, rfl, trivial⟩ (fun u => ?_)
 refine d_sta ⟨w0, M, (1000, go0, .cells #[.int .i64 o0.fRaft.fMe, .int .i64 o0.fRaft.fRole, .int .i64 o0.fRaft.fLeader, .int .i64 o0.fRaft.fCommit, .int .i64 o0.fRaft.fLeft, .int .i64 o0.fRaft.fHard.fTerm, .int .i64 o0.fRaft.fHard.fVote, .slice Ao0_0 o0.fRaft.fHard.fVoters.length co0_0, .string o0.fRaft.fHard.fSnap, .int .i64 o0.fRaft.fHard.fLog.fBase, .int .i64 o0.fRaft.fHard.fLog.fBaseTerm, .slice Ao0_1 o0.fRaft.fHard.fLog.fEntries.length co0_1, .slice Ao0_2 o0.fRaft.fVotes.length co0_2, .slice Ao0_3 o0.fRaft.fMarks.length co0_3] 84 (0, 0)) :: H, (1000, ⟨.slice Ap0_0 l51.length cp0_0, 3, 1, l51.length, l51.flatMap (fun x : Int => [Value.int .i64 x])⟩) :: R, φ⟩ (fun _ h => h) <| d_then <| c_seq <| c_region <| g_v rfl r_move <| g_v rfl r_move ?_
 replace hm := bnd hm
 obtain ⟨l55, hl55, hm⟩ := hm
 refine g_v rfl (r_lcutLo Try.underlying23 Try.sizeOf3 rfl hl51.1 rfl hl55) ?_
 replace hm := bnd hm
 obtain ⟨l56, hl56, hm⟩ := hm
 refine g_sta _ (fun W h => row_cut (tag := 1000) (enc := (fun x : Int => [Value.int .i64 x])) (fun _ => rfl) rfl hl56 h) <| g_e0 (e_clearLo (tag := 1000) (enc := (fun x : Int => [Value.int .i64 x])) Try.underlying23 Try.zeroValue3 rfl rfl hl56 hl55 rfl hl51.1 rfl) <| g_nil <| d_then <| c_seq <| c_region <| g_v rfl r_move <| g_v rfl r_move <| g_v rfl (r_lcutHi Try.underlying23 Try.sizeOf3 rfl hl51.1 rfl hl56) <| g_v rfl r_assign ?_
 refine g_nil <| d_then <| c_ret ?_
 cases hm
 refine d_sta _ (fun W h => ok_frontR (t := 1000) (t' := 2000) h rfl) ?_
 exact d_retC (Ap0_0, cp0_0) Try.results83 (res_tmp (res_nil rfl)) (cutHi_len hl51.1 hl56) (fun W h => h.phi (fun W hφ => hφ)) (.inr rfl)
noncomputable def m_raft_state_others (p0 : Graft_state) : Option (List Int) :=
  (m_raft_state_voters p0).bind fun x2 =>
  (m_slices_DeleteFunc_83 x2 p0).bind fun x7 =>
  some x7
theorem c_raft_state_others {w0 : World} {M : Nat → Prop} {H : List (Nat × Nat × Obj)} {R : List (Nat × Row)} {φ : World → Prop} (p0 : Graft_state) (Ap0_0 : Option Addr) (cp0_0 : Nat) (hcp0_0 : p0.fRaft.fHard.fVoters.length ≤ cp0_0) (fp0_0 : ∀ W, φ W → Cl W Ap0_0 (p0.fRaft.fHard.fVoters.flatMap (fun x : Int => [Value.int .i64 x]))) (Ap0_1 : Option Addr) (cp0_1 : Nat) (hcp0_1 : p0.fRaft.fHard.fLog.fEntries.length ≤ cp0_1) (fp0_1 : ∀ W, φ W → Cl W Ap0_1 (p0.fRaft.fHard.fLog.fEntries.flatMap GEntry.enc)) (Ap0_2 : Option Addr) (cp0_2 : Nat) (hcp0_2 : p0.fRaft.fVotes.length ≤ cp0_2) (fp0_2 : ∀ W, φ W → Cl W Ap0_2 (p0.fRaft.fVotes.flatMap (fun x : Int => [Value.int .i64 x]))) (Ap0_3 : Option Addr) (cp0_3 : Nat) (hcp0_3 : p0.fRaft.fMarks.length ≤ cp0_3) (fp0_3 : ∀ W, φ W → Cl W Ap0_3 (p0.fRaft.fMarks.flatMap GMark.enc)) (r : (List Int)) (hm : m_raft_state_others p0 = some r) :
    Cn Try.prog 66 #[.agg #[.int .i64 p0.fRaft.fMe, .int .i64 p0.fRaft.fRole, .int .i64 p0.fRaft.fLeader, .int .i64 p0.fRaft.fCommit, .int .i64 p0.fRaft.fLeft, .int .i64 p0.fRaft.fHard.fTerm, .int .i64 p0.fRaft.fHard.fVote, .slice Ap0_0 p0.fRaft.fHard.fVoters.length cp0_0, .string p0.fRaft.fHard.fSnap, .int .i64 p0.fRaft.fHard.fLog.fBase, .int .i64 p0.fRaft.fHard.fLog.fBaseTerm, .slice Ap0_1 p0.fRaft.fHard.fLog.fEntries.length cp0_1, .slice Ap0_2 p0.fRaft.fVotes.length cp0_2, .slice Ap0_3 p0.fRaft.fMarks.length cp0_3]] ⟨w0, M, H, R, φ⟩ (fun x : Option Addr × Nat => .slice x.1 r.length x.2) (fun x => r.length ≤ x.2) (fun x => ⟨w0, M, H, (2000, ⟨.slice x.1 r.length x.2, 3, 1, r.length, r.flatMap (fun x : Int => [Value.int .i64 x])⟩) :: R, φ⟩) := by
 unfold m_raft_state_others at hm
 refine cn_intro (fn := Try.f66) (N := 7) Try.func66 rfl Try.ntmps66 rfl <| c_seq <| c_region ?_
 refine g_e rfl (e_box 100010 rfl) (fun g1 _ => ?_)
 refine g_v rfl r_assign <| g_nil <| d_then <| c_seq <| c_region <| g_v rfl (r_loadA (tag := 100010) rfl rfl Try.isAgg84 Try.sizeOf84 rfl rfl) ?_
 replace hm := bnd hm
 obtain ⟨x2, hx3, hm⟩ := hm
 refine g_cn ⟨w0, M, _, _, φ⟩ (fun _ h => h) Try.call40 rfl rfl (c_raft_state_voters p0 Ap0_0 cp0_0 hcp0_0 (fun W hS => fp0_0 W hS.now) Ap0_1 cp0_1 hcp0_1 (fun W hS => fp0_1 W hS.now) Ap0_2 cp0_2 hcp0_2 (fun W hS => fp0_2 W hS.now) Ap0_3 cp0_3 hcp0_3 (fun W hS => fp0_3 W hS.now) _ hx3) (fun ⟨A4, c5⟩ hc5 => ?_)
 refine g_sta _ (fun W h => (ok_frontR (t := 2000) (t' := 100040) h rfl)) <| g_v rfl (r_mkf rfl) ?_
 replace hm := bnd hm
 obtain ⟨x7, hx8, hm⟩ := hm
 refine g_cn ⟨w0, M, (1000, g1, .cells #[.int .i64 p0.fRaft.fMe, .int .i64 p0.fRaft.fRole, .int .i64 p0.fRaft.fLeader, .int .i64 p0.fRaft.fCommit, .int .i64 p0.fRaft.fLeft, .int .i64 p0.fRaft.fHard.fTerm, .int .i64 p0.fRaft.fHard.fVote, .slice Ap0_0 p0.fRaft.fHard.fVoters.length cp0_0, .string p0.fRaft.fHard.fSnap, .int .i64 p0.fRaft.fHard.fLog.fBase, .int .i64 p0.fRaft.fHard.fLog.fBaseTerm, .slice Ap0_1 p0.fRaft.fHard.fLog.fEntries.length cp0_1, .slice Ap0_2 p0.fRaft.fVotes.length cp0_2, .slice Ap0_3 p0.fRaft.fMarks.length cp0_3] 84 (0, 0)) :: H, (1000, ⟨.slice A4 x2.length c5, 3, 1, x2.length, x2.flatMap (fun x : Int => [Value.int .i64 x])⟩) :: R, φ⟩ (fun W h => (ok_front (t := 100010) (t' := 1000) (ok_frontR (t := 100040) (t' := 1000) h rfl) rfl)) Try.call83 rfl rfl (c_slices_DeleteFunc_83 x2 A4 c5 hc5 g1 p0 Ap0_0 cp0_0 hcp0_0 (fun W h => fp0_0 W h) Ap0_1 cp0_1 hcp0_1 (fun W h => fp0_1 W h) Ap0_2 cp0_2 hcp0_2 (fun W h => fp0_2 W h) Ap0_3 cp0_3 hcp0_3 (fun W h => fp0_3 W h) _ hx8) (fun ⟨A9, c10⟩ hc10 => ?_)
 refine g_sta _ (fun W h => (ok_frontR (t := 2000) (t' := 100040) (ok_front (t := 1000) (t' := 100010) h rfl) rfl)) <| g_v rfl r_assign <| g_nil <| d_then <| c_ret ?_
 cases hm
 refine d_sta _ (fun W h => ok_frontR (t := 100040) (t' := 2000) h rfl) ?_
 exact d_retC (A9, c10) Try.results66 (res_tmp (res_nil rfl)) hc10 (fun W h => (h.dropH (t := 100010) rfl).phi (fun W hφ => hφ)) (.inr rfl)
noncomputable def m_raft_state_marks_c1 (p0 : GMark) (o0 : Int) : Option Bool :=
  some (decide (p0.fNode = o0))
theorem c_raft_state_marks_c1 {w0 : World} {M : Nat → Prop} {H : List (Nat × Nat × Obj)} {R : List (Nat × Row)} {φ : World → Prop} (p0 : GMark) (go0 : Nat) (o0 : Int) (r : Bool) (hm : m_raft_state_marks_c1 p0 o0 = some r) :
    Cn Try.prog 72 #[.agg #[.int .i64 p0.fNode, .int .i64 p0.fNext, .int .i64 p0.fMatch], .pointer (some ⟨go0, 0, none⟩)] ⟨w0, M, (1000, go0, .cells #[.int .i64 o0] 3 (0, 0)) :: H, R, φ⟩ (fun x : Unit => .bool r) (fun x => True) (fun x => ⟨w0, M, (1000, go0, .cells #[.int .i64 o0] 3 (0, 0)) :: H, R, φ⟩) := by
 unfold m_raft_state_marks_c1 at hm
 refine cn_intro (fn := Try.f72) (N := 8) Try.func72 rfl Try.ntmps72 rfl <| c_seq <| c_region ?_
 refine g_e rfl (e_box 100020 rfl) (fun g1 _ => ?_)
 refine g_v rfl r_assign <| g_nil <| d_then <| c_seq <| c_region <| g_v rfl (r_field (n := 0) Try.underlying105 rfl Try.sizeOf3 rfl rfl) <| g_v rfl (r_load (tag := 100020) rfl rfl rfl Try.isAgg3) <| g_v rfl (r_load (tag := 1000) rfl rfl rfl Try.isAgg3) <| g_v rfl (r_eql rfl rfl) <| g_v rfl r_assign ?_
 refine g_nil <| d_then <| c_ret ?_
 cases hm
 exact d_retC () Try.results72 (res_tmp (res_nil rfl)) trivial (fun W h => (h.dropH (t := 100020) rfl).phi (fun W hφ => hφ)) (.inr rfl)
noncomputable def m_slices_IndexFunc_71_j1  : Option Int :=
  some (-1)
noncomputable def m_slices_IndexFunc_71_s2 (p0 : List GMark) (o0 : Int) (i30 : Int) : Option (Int ⊕ (Unit ⊕ Int)) :=
  if i30 < (p0.length : Int) then
    (at_ p0 i30).bind fun x42 =>
    (m_raft_state_marks_c1 x42 o0).bind fun x46 =>
    if x46 = true then
      some (.inr (.inr i30))
    else
      some (.inl (w64 (i30 + 1)))
  else
    some (.inr (.inl ()))
noncomputable def m_slices_IndexFunc_71 (p0 : List GMark) (o0 : Int) : Option Int :=
  (loop (fun s => m_slices_IndexFunc_71_s2 p0 o0 s) 0).bind fun e => Sum.elim (fun e => m_slices_IndexFunc_71_j1) (fun x => some x) e
theorem c_slices_IndexFunc_71 {w0 : World} {M : Nat → Prop} {H : List (Nat × Nat × Obj)} {R : List (Nat × Row)} {φ : World → Prop} (p0 : List GMark) (Ap0_0 : Option Addr) (cp0_0 : Nat) (hcp0_0 : p0.length ≤ cp0_0) (fp0_0 : ∀ W, (Sta.mk w0 M H R φ).ok W → Cl W Ap0_0 (p0.flatMap GMark.enc)) (go0 : Nat) (o0 : Int) (r : Int) (hm : m_slices_IndexFunc_71 p0 o0 = some r) :
    Cn Try.prog 71 #[.slice Ap0_0 p0.length cp0_0, .func (.func 72) #[] #[.pointer (some ⟨go0, 0, none⟩)]] ⟨w0, M, (1000, go0, .cells #[.int .i64 o0] 3 (0, 0)) :: H, R, φ⟩ (fun x : Unit => .int .i64 r) (fun x => True) (fun x => ⟨w0, M, (1000, go0, .cells #[.int .i64 o0] 3 (0, 0)) :: H, R, φ⟩) := by
 unfold m_slices_IndexFunc_71 at hm
 refine cn_intro (fn := Try.f71) (N := 19) Try.func71 rfl Try.ntmps71 rfl <| c_seq <| c_region <| g_v rfl r_assign <| g_nil <| d_then <| c_seq <| c_seq <| c_region <| g_v rfl r_move ?_
 refine g_v rfl (r_lenL Try.underlying41 rfl) <| g_v rfl r_move <| g_nil <| d_then ?_
 refine c_cut (ι := Unit) [] (fun _ => []) (fun _ => ⟨w0, M, (1000, go0, .cells #[.int .i64 o0] 3 (0, 0)) :: H, R, φ⟩) (fun _ => m_slices_IndexFunc_71_j1 = some r) ?_ (fun _ u hm => ?_)
 ·
  refine c_block ?_
  replace hm := bnd hm
  obtain ⟨out2, hl2, hr2⟩ := hm
  obtain ⟨n40', hl2⟩ := loop_lp hl2
  refine c_loopU (ι := Nat × Int) [0, 1, 7, 8] (fun ⟨n40, i30⟩ => [(8, .int .i64 i30)]) (fun ⟨n40, i30⟩ => ⟨w0, M, (1000, go0, .cells #[.int .i64 o0] 3 (0, 0)) :: H, R, φ⟩) (fun ⟨n40, i30⟩ => Lp (fun s => m_slices_IndexFunc_71_s2 p0 o0 s) n40 i30 out2) (fun ⟨n40, i30⟩ => n40) (n40', 0) hl2 ⟨rfl, rfl, rfl, rfl, trivial⟩ (fun W h => h.phi (fun W hφ => hφ)) (fun ⟨n40, i30⟩ u hlp => ?_)
  obtain ⟨o2, hm, hnx2⟩ := lp_step hlp
  clear hlp
  replace hm : m_slices_IndexFunc_71_s2 p0 o0 i30 = some o2 := hm
  unfold m_slices_IndexFunc_71_s2 at hm
  refine c_flat [(0, .slice Ap0_0 p0.length cp0_0), (1, .func (.func 72) #[] #[.pointer (some ⟨go0, 0, none⟩)]), (7, .int .i64 (p0.length : Int)), (8, .int .i64 i30)] ⟨rfl, rfl, rfl, rfl, trivial⟩ (fun u => ?_)
  refine c_sta ⟨w0, M, (1000, go0, .cells #[.int .i64 o0] 3 (0, 0)) :: H, R, φ⟩ (fun _ h => h) <| c_seq <| c_region <| g_v rfl (r_lss rfl rfl) <| g_nil <| d_then <| c_seq ?_
  refine c_cond rfl (fun h41 => ?_) (fun h41 => ?_)
  ·
   replace hm := ite_t hm (of_decide_eq_true h41)
   refine c_skip <| d_then <| c_seq <| c_block <| c_seq <| c_region <| g_v rfl r_move <| g_v rfl r_assign <| g_nil <| d_then ?_
   refine c_seq <| c_region ?_
   iterate 3 refine g_v rfl r_move ?_
   replace hm := bnd hm
   obtain ⟨x42, hx42, hm⟩ := hm
   refine g_know _ (fun W hS => cl_at (p := (Sta.mk w0 M H R φ).ok) (sz := 3) (fun _ => rfl) (by decide) (ok_pre (H1 := [_]) (R1 := []) hS (fun W h => h)) fp0_0 hx42) ?_
   rintro ⟨ad43, hA45, f44⟩
   refine g_v rfl (r_ix Try.underlying41 Try.sizeOf105 rfl hA45 rfl hx42) <| g_v rfl (r_ldA rfl Try.isAgg105 Try.sizeOf105 (fun W hS => (f44 W (ok_pre (H1 := [_]) (R1 := []) hS (fun W h => h))).take 3) rfl) ?_
   replace hm := bnd hm
   obtain ⟨x46, hx47, hm⟩ := hm
   refine g_cnv ⟨w0, M, (1000, go0, .cells #[.int .i64 o0] 3 (0, 0)) :: H, R, φ⟩ (fun W h => (ok_front (t := 1000) (t' := 1000) h rfl)) Try.call72 rfl rfl rfl (c_raft_state_marks_c1 x42 go0 o0 _ hx47) (fun _ _ => ?_)
   refine g_sta _ (fun W h => (ok_front (t := 1000) (t' := 1000) h rfl)) <| g_nil <| d_then ?_
   refine c_flat [(0, .slice Ap0_0 p0.length cp0_0), (1, .func (.func 72) #[] #[.pointer (some ⟨go0, 0, none⟩)]), (5, .int .i64 i30), (7, .int .i64 (p0.length : Int)), (8, .int .i64 i30), (16, .bool x46)] ⟨rfl, rfl, rfl, rfl, rfl, rfl, trivial⟩ (fun u => ?_)
   refine c_cond rfl (fun h48 => ?_) (fun h48 => ?_)
   ·
    replace hm := ite_t hm h48
    refine c_seq <| c_region <| g_v rfl r_move <| g_v rfl r_assign <| g_nil <| d_then <| c_ret <| d_ret_block <| d_ret_then <| d_ret_then ?_
    refine d_ret_block <| d_ret_then <| d_ret_then ?_
    replace hm := nx_out (C := (fun e : Unit ⊕ Int => Sum.elim (fun e => m_slices_IndexFunc_71_j1) (fun x => some x) e = some r)) hm hnx2 hr2
    replace hm : some i30 = some r := hm
    cases hm
    exact d_retC () Try.results71 (res_tmp (res_nil rfl)) trivial (fun W h => h.phi (fun W hφ => hφ)) (.inr rfl)
   replace hm := ite_f hm (bool_nt h48)
   refine c_skip <| d_normal_block <| d_then <| c_region <| g_v rfl (r_add rfl rfl rfl) <| g_v rfl r_move <| g_nil ?_
   obtain ⟨n49, hn49, hlp⟩ := nx_inl hm hnx2
   exact d_round (n49, w64 (i30 + 1)) hlp hn49 ⟨rfl, rfl, rfl, rfl, trivial⟩ (fun W h => h.phi (fun W hφ => hφ))
  replace hm := ite_f hm (of_decide_eq_false h41)
  refine c_exit <| d_exit_then <| d_exit_then <| d_exit_block ?_
  replace hm := nx_out (C := (fun e : Unit ⊕ Int => Sum.elim (fun e => m_slices_IndexFunc_71_j1) (fun x => some x) e = some r)) hm hnx2 hr2
  exact d_round () hm Nat.zero_lt_one trivial (fun W h => h.phi (fun W hφ => hφ))
 unfold m_slices_IndexFunc_71_j1 at hm
 refine d_flat [] trivial (fun u => ?_)
 refine d_sta ⟨w0, M, (1000, go0, .cells #[.int .i64 o0] 3 (0, 0)) :: H, R, φ⟩ (fun _ h => h) <| d_then <| c_seq <| c_region <| g_v rfl r_assign <| g_nil <| d_then <| c_ret ?_
 cases hm
 exact d_retC () Try.results71 (res_tmp (res_nil rfl)) trivial (fun W h => h.phi (fun W hφ => hφ)) (.inr rfl)
theorem lit105_14 (z0 : Int) (z1 : Int) (z2 : Int) : Try.prog.builtSlice 105 1 [(0, .agg #[.int .i64 z0, .int .i64 z1, .int .i64 z2])] = some #[.int .i64 z0, .int .i64 z1, .int .i64 z2] := by kernel_rfl
theorem inf105_15  : (Try.prog.info? 105).map (fun i => (i.zero, i.size, i.bytes)) = some (some (.agg #[.int .i64 0, .int .i64 0, .int .i64 0]), 3, 24) := by kernel_rfl
theorem bld105_16 (z0 : Int) (z1 : Int) : ∀ W, (Instr.build 105 #[(0, .int .i64 z0), (1, .int .i64 z1)]).run Try.prog W = .ok (.agg #[.int .i64 z0, .int .i64 z1, .int .i64 0]) W := fun _ => by kernel_rfl
noncomputable def m_raft_state_marks_j1  (l138 : List GMark) : Option (List GMark) :=
  some l138
noncomputable def m_raft_state_marks_s2 (x2 : List Int) (p0 : Graft_state) (p1 : Int) (l166 : List GMark) (i169 : Int) : Option (((List GMark) × Int) ⊕ (List GMark)) :=
  if i169 < (x2.length : Int) then
    (at_ x2 i169).bind fun x197 =>
    (m_slices_IndexFunc_71 p0.fRaft.fMarks x197).bind fun x202 =>
    if 0 ≤ x202 then
      (at_ p0.fRaft.fMarks x202).bind fun x205 =>
      (app 24 l166 [x205]).bind fun l210 =>
      some (.inl (l210, w64 (i169 + 1)))
    else
      (app 24 l166 [(⟨x197, p1, 0⟩ : GMark)]).bind fun l215 =>
      some (.inl (l215, w64 (i169 + 1)))
  else
    some (.inr l166)
noncomputable def m_raft_state_marks (p0 : Graft_state) (p1 : Int) : Option (List GMark) :=
  (m_raft_state_others p0).bind fun x2 =>
  (loop (fun s => m_raft_state_marks_s2 x2 p0 p1 s.1 s.2) (([] : List GMark), 0)).bind fun e => m_raft_state_marks_j1 e
theorem c_raft_state_marks {w0 : World} {M : Nat → Prop} {H : List (Nat × Nat × Obj)} {R : List (Nat × Row)} {φ : World → Prop} (p0 : Graft_state) (Ap0_0 : Option Addr) (cp0_0 : Nat) (hcp0_0 : p0.fRaft.fHard.fVoters.length ≤ cp0_0) (fp0_0 : ∀ W, φ W → Cl W Ap0_0 (p0.fRaft.fHard.fVoters.flatMap (fun x : Int => [Value.int .i64 x]))) (Ap0_1 : Option Addr) (cp0_1 : Nat) (hcp0_1 : p0.fRaft.fHard.fLog.fEntries.length ≤ cp0_1) (fp0_1 : ∀ W, φ W → Cl W Ap0_1 (p0.fRaft.fHard.fLog.fEntries.flatMap GEntry.enc)) (Ap0_2 : Option Addr) (cp0_2 : Nat) (hcp0_2 : p0.fRaft.fVotes.length ≤ cp0_2) (fp0_2 : ∀ W, φ W → Cl W Ap0_2 (p0.fRaft.fVotes.flatMap (fun x : Int => [Value.int .i64 x]))) (Ap0_3 : Option Addr) (cp0_3 : Nat) (hcp0_3 : p0.fRaft.fMarks.length ≤ cp0_3) (fp0_3 : ∀ W, φ W → Cl W Ap0_3 (p0.fRaft.fMarks.flatMap GMark.enc)) (p1 : Int) (r : (List GMark)) (hm : m_raft_state_marks p0 p1 = some r) :
    Cn Try.prog 45 #[.agg #[.int .i64 p0.fRaft.fMe, .int .i64 p0.fRaft.fRole, .int .i64 p0.fRaft.fLeader, .int .i64 p0.fRaft.fCommit, .int .i64 p0.fRaft.fLeft, .int .i64 p0.fRaft.fHard.fTerm, .int .i64 p0.fRaft.fHard.fVote, .slice Ap0_0 p0.fRaft.fHard.fVoters.length cp0_0, .string p0.fRaft.fHard.fSnap, .int .i64 p0.fRaft.fHard.fLog.fBase, .int .i64 p0.fRaft.fHard.fLog.fBaseTerm, .slice Ap0_1 p0.fRaft.fHard.fLog.fEntries.length cp0_1, .slice Ap0_2 p0.fRaft.fVotes.length cp0_2, .slice Ap0_3 p0.fRaft.fMarks.length cp0_3], .int .i64 p1] ⟨w0, M, H, R, φ⟩ (fun x : Option Addr × Nat => .slice x.1 r.length x.2) (fun x => r.length ≤ x.2) (fun x => ⟨w0, M, H, (2000, ⟨.slice x.1 r.length x.2, 105, 3, r.length, r.flatMap GMark.enc⟩) :: R, φ⟩) := by
 unfold m_raft_state_marks at hm
 refine cn_intro (fn := Try.f45) (N := 40) Try.func45 rfl Try.ntmps45 rfl <| c_seq <| c_region ?_
 refine g_e rfl (e_box 100020 rfl) (fun g1 _ => ?_)
 refine g_v rfl r_assign <| g_nil <| d_then <| c_seq <| c_region <| g_v rfl r_assign <| g_nil <| d_then <| c_seq <| c_seq ?_
 refine c_region <| g_v rfl (r_loadA (tag := 100020) rfl rfl Try.isAgg84 Try.sizeOf84 rfl rfl) ?_
 replace hm := bnd hm
 obtain ⟨x2, hx3, hm⟩ := hm
 refine g_cn ⟨w0, M, _, _, φ⟩ (fun _ h => h) Try.call66 rfl rfl (c_raft_state_others p0 Ap0_0 cp0_0 hcp0_0 (fun W h => fp0_0 W h) Ap0_1 cp0_1 hcp0_1 (fun W h => fp0_1 W h) Ap0_2 cp0_2 hcp0_2 (fun W h => fp0_2 W h) Ap0_3 cp0_3 hcp0_3 (fun W h => fp0_3 W h) _ hx3) (fun ⟨A4, c5⟩ hc5 => ?_)
 refine g_sta _ (fun W h => (ok_frontR (t := 2000) (t' := 100100) h rfl)) <| g_v rfl (r_lenL Try.underlying23 rfl) <| g_v rfl r_move <| g_nil <| d_then <| c_sta _ (fun W h => nilR h 14 105 3) ?_
 refine c_cut (ι := (List GMark) × Option Addr × Nat) [5] (fun ⟨l138, A139, c140⟩ => [(5, .slice A139 l138.length c140)]) (fun ⟨l138, A139, c140⟩ => ⟨w0, M, H, (14, ⟨.slice A139 l138.length c140, 105, 3, l138.length, l138.flatMap GMark.enc⟩) :: R, φ⟩) (fun ⟨l138, A139, c140⟩ => m_raft_state_marks_j1 l138 = some r ∧ l138.length ≤ c140) ?_ (fun ⟨l138, A139, c140⟩ u ⟨hm, hc140⟩ => ?_)
 ·
  refine c_block ?_
  replace hm := bnd hm
  obtain ⟨out2, hl2, hr2⟩ := hm
  obtain ⟨n195', hl2⟩ := loop_lp hl2
  refine c_loopU (ι := Nat × (List GMark) × Int × Option Addr × Nat) [1, 2, 5, 10, 11, 12] (fun ⟨n195, l166, i169, A167, c168⟩ => [(5, .slice A167 l166.length c168), (12, .int .i64 i169)]) (fun ⟨n195, l166, i169, A167, c168⟩ => ⟨w0, M, (100020, g1, .cells #[.int .i64 p0.fRaft.fMe, .int .i64 p0.fRaft.fRole, .int .i64 p0.fRaft.fLeader, .int .i64 p0.fRaft.fCommit, .int .i64 p0.fRaft.fLeft, .int .i64 p0.fRaft.fHard.fTerm, .int .i64 p0.fRaft.fHard.fVote, .slice Ap0_0 p0.fRaft.fHard.fVoters.length cp0_0, .string p0.fRaft.fHard.fSnap, .int .i64 p0.fRaft.fHard.fLog.fBase, .int .i64 p0.fRaft.fHard.fLog.fBaseTerm, .slice Ap0_1 p0.fRaft.fHard.fLog.fEntries.length cp0_1, .slice Ap0_2 p0.fRaft.fVotes.length cp0_2, .slice Ap0_3 p0.fRaft.fMarks.length cp0_3] 84 (0, 0)) :: H, (14, ⟨.slice A167 l166.length c168, 105, 3, l166.length, l166.flatMap GMark.enc⟩) :: (100100, ⟨.slice A4 x2.length c5, 3, 1, x2.length, x2.flatMap (fun x : Int => [Value.int .i64 x])⟩) :: R, φ⟩) (fun ⟨n195, l166, i169, A167, c168⟩ => Lp (fun s => m_raft_state_marks_s2 x2 p0 p1 s.1 s.2) n195 (l166, i169) out2 ∧ l166.length ≤ c168) (fun ⟨n195, l166, i169, A167, c168⟩ => n195) (n195', ([] : List GMark), 0, none, 0) ⟨hl2, (Nat.le_refl 0)⟩ ⟨rfl, rfl, rfl, rfl, rfl, rfl, trivial⟩ (fun W h => h.phi (fun W hφ => hφ)) (fun ⟨n195, l166, i169, A167, c168⟩ u ⟨hlp, hc168⟩ => ?_)
  obtain ⟨o2, hm, hnx2⟩ := lp_step hlp
  clear hlp
  replace hm : m_raft_state_marks_s2 x2 p0 p1 l166 i169 = some o2 := hm
  unfold m_raft_state_marks_s2 at hm
  refine c_flat [(1, .int .i64 p1), (2, .pointer (some ⟨g1, 0, none⟩)), (5, .slice A167 l166.length c168), (10, .slice A4 x2.length c5), (11, .int .i64 (x2.length : Int)), (12, .int .i64 i169)] ⟨rfl, rfl, rfl, rfl, rfl, rfl, trivial⟩ (fun u => ?_)
  refine c_sta ⟨w0, M, (100020, g1, .cells #[.int .i64 p0.fRaft.fMe, .int .i64 p0.fRaft.fRole, .int .i64 p0.fRaft.fLeader, .int .i64 p0.fRaft.fCommit, .int .i64 p0.fRaft.fLeft, .int .i64 p0.fRaft.fHard.fTerm, .int .i64 p0.fRaft.fHard.fVote, .slice Ap0_0 p0.fRaft.fHard.fVoters.length cp0_0, .string p0.fRaft.fHard.fSnap, .int .i64 p0.fRaft.fHard.fLog.fBase, .int .i64 p0.fRaft.fHard.fLog.fBaseTerm, .slice Ap0_1 p0.fRaft.fHard.fLog.fEntries.length cp0_1, .slice Ap0_2 p0.fRaft.fVotes.length cp0_2, .slice Ap0_3 p0.fRaft.fMarks.length cp0_3] 84 (0, 0)) :: H, (14, ⟨.slice A167 l166.length c168, 105, 3, l166.length, l166.flatMap GMark.enc⟩) :: (100100, ⟨.slice A4 x2.length c5, 3, 1, x2.length, x2.flatMap (fun x : Int => [Value.int .i64 x])⟩) :: R, φ⟩ (fun _ h => h) <| c_seq <| c_region <| g_v rfl (r_lss rfl rfl) <| g_nil <| d_then <| c_seq ?_
  refine c_cond rfl (fun h196 => ?_) (fun h196 => ?_)
  ·
   replace hm := ite_t hm (of_decide_eq_true h196)
   refine c_skip <| d_then <| c_seq <| c_block <| c_seq <| c_region ?_
   replace hm := bnd hm
   obtain ⟨x197, hx197, hm⟩ := hm
   refine g_know _ (fun W hS => cl_at (p := (Sta.ok ⟨w0, M, (100020, g1, .cells #[.int .i64 p0.fRaft.fMe, .int .i64 p0.fRaft.fRole, .int .i64 p0.fRaft.fLeader, .int .i64 p0.fRaft.fCommit, .int .i64 p0.fRaft.fLeft, .int .i64 p0.fRaft.fHard.fTerm, .int .i64 p0.fRaft.fHard.fVote, .slice Ap0_0 p0.fRaft.fHard.fVoters.length cp0_0, .string p0.fRaft.fHard.fSnap, .int .i64 p0.fRaft.fHard.fLog.fBase, .int .i64 p0.fRaft.fHard.fLog.fBaseTerm, .slice Ap0_1 p0.fRaft.fHard.fLog.fEntries.length cp0_1, .slice Ap0_2 p0.fRaft.fVotes.length cp0_2, .slice Ap0_3 p0.fRaft.fMarks.length cp0_3] 84 (0, 0)) :: H, (14, ⟨.slice A167 l166.length c168, 105, 3, l166.length, l166.flatMap GMark.enc⟩) :: (100100, ⟨.slice A4 x2.length c5, 3, 1, x2.length, x2.flatMap (fun x : Int => [Value.int .i64 x])⟩) :: R, φ⟩)) (sz := 1) (fun _ => rfl) (by decide) hS (fun W hS => rowCl (S := ⟨w0, M, (100020, g1, .cells #[.int .i64 p0.fRaft.fMe, .int .i64 p0.fRaft.fRole, .int .i64 p0.fRaft.fLeader, .int .i64 p0.fRaft.fCommit, .int .i64 p0.fRaft.fLeft, .int .i64 p0.fRaft.fHard.fTerm, .int .i64 p0.fRaft.fHard.fVote, .slice Ap0_0 p0.fRaft.fHard.fVoters.length cp0_0, .string p0.fRaft.fHard.fSnap, .int .i64 p0.fRaft.fHard.fLog.fBase, .int .i64 p0.fRaft.fHard.fLog.fBaseTerm, .slice Ap0_1 p0.fRaft.fHard.fLog.fEntries.length cp0_1, .slice Ap0_2 p0.fRaft.fVotes.length cp0_2, .slice Ap0_3 p0.fRaft.fMarks.length cp0_3] 84 (0, 0)) :: H, (14, ⟨.slice A167 l166.length c168, 105, 3, l166.length, l166.flatMap GMark.enc⟩) :: (100100, ⟨.slice A4 x2.length c5, 3, 1, x2.length, x2.flatMap (fun x : Int => [Value.int .i64 x])⟩) :: R, φ⟩) (tag := 100100) rfl W hS) hx197) ?_
   rintro ⟨ad198, hA200, f199⟩
   refine g_v rfl (r_ix Try.underlying23 Try.sizeOf3 rfl hA200 rfl hx197) <| g_v rfl (r_ld rfl Try.isAgg3 (fun W hS => Cl.head (f199 W hS))) ?_
   refine g_e rfl (e_alloc 100070 Try.zeroValue3) (fun g201 _ => ?_)
   refine g_storeL (tag := 100070) rfl rfl rfl rfl Try.sizeOf3 rfl rfl <| g_nil <| d_then <| c_seq <| c_region <| g_v rfl (r_field (n := 0) Try.underlying84 rfl Try.sizeOf43 rfl rfl) <| g_v rfl (r_field (n := 13) Try.underlying43 rfl Try.sizeOf41 rfl rfl) <| g_v rfl (r_load (tag := 100020) rfl rfl rfl Try.isAgg41) <| g_v rfl (r_mkf rfl) ?_
   replace hm := bnd hm
   obtain ⟨x202, hx203, hm⟩ := hm
   refine g_cn ⟨w0, M, (1000, g201, .cells #[.int .i64 x197] 3 (0, 0)) :: (100020, g1, .cells #[.int .i64 p0.fRaft.fMe, .int .i64 p0.fRaft.fRole, .int .i64 p0.fRaft.fLeader, .int .i64 p0.fRaft.fCommit, .int .i64 p0.fRaft.fLeft, .int .i64 p0.fRaft.fHard.fTerm, .int .i64 p0.fRaft.fHard.fVote, .slice Ap0_0 p0.fRaft.fHard.fVoters.length cp0_0, .string p0.fRaft.fHard.fSnap, .int .i64 p0.fRaft.fHard.fLog.fBase, .int .i64 p0.fRaft.fHard.fLog.fBaseTerm, .slice Ap0_1 p0.fRaft.fHard.fLog.fEntries.length cp0_1, .slice Ap0_2 p0.fRaft.fVotes.length cp0_2, .slice Ap0_3 p0.fRaft.fMarks.length cp0_3] 84 (0, 0)) :: H, (14, ⟨.slice A167 l166.length c168, 105, 3, l166.length, l166.flatMap GMark.enc⟩) :: (100100, ⟨.slice A4 x2.length c5, 3, 1, x2.length, x2.flatMap (fun x : Int => [Value.int .i64 x])⟩) :: R, φ⟩ (fun W h => (ok_front (t := 100070) (t' := 1000) h rfl)) Try.call71 rfl rfl (c_slices_IndexFunc_71 p0.fRaft.fMarks Ap0_3 cp0_3 hcp0_3 (fun W hS => fp0_3 W hS.now) g201 x197 _ hx203) (fun _ _ => ?_)
   refine g_sta _ (fun W h => (ok_front (t := 1000) (t' := 100070) h rfl)) <| g_v rfl r_assign <| g_nil <| d_then ?_
   refine c_flat [(1, .int .i64 p1), (2, .pointer (some ⟨g1, 0, none⟩)), (5, .slice A167 l166.length c168), (7, .pointer (some ⟨g201, 0, none⟩)), (8, .int .i64 x202), (10, .slice A4 x2.length c5), (11, .int .i64 (x2.length : Int)), (12, .int .i64 i169)] ⟨rfl, rfl, rfl, rfl, rfl, rfl, rfl, rfl, trivial⟩ (fun u => ?_)
   refine c_sta ⟨w0, M, (100070, g201, .cells #[.int .i64 x197] 3 (0, 0)) :: (100020, g1, .cells #[.int .i64 p0.fRaft.fMe, .int .i64 p0.fRaft.fRole, .int .i64 p0.fRaft.fLeader, .int .i64 p0.fRaft.fCommit, .int .i64 p0.fRaft.fLeft, .int .i64 p0.fRaft.fHard.fTerm, .int .i64 p0.fRaft.fHard.fVote, .slice Ap0_0 p0.fRaft.fHard.fVoters.length cp0_0, .string p0.fRaft.fHard.fSnap, .int .i64 p0.fRaft.fHard.fLog.fBase, .int .i64 p0.fRaft.fHard.fLog.fBaseTerm, .slice Ap0_1 p0.fRaft.fHard.fLog.fEntries.length cp0_1, .slice Ap0_2 p0.fRaft.fVotes.length cp0_2, .slice Ap0_3 p0.fRaft.fMarks.length cp0_3] 84 (0, 0)) :: H, (14, ⟨.slice A167 l166.length c168, 105, 3, l166.length, l166.flatMap GMark.enc⟩) :: (100100, ⟨.slice A4 x2.length c5, 3, 1, x2.length, x2.flatMap (fun x : Int => [Value.int .i64 x])⟩) :: R, φ⟩ (fun _ h => h) <| c_seq <| c_region <| g_v rfl r_move <| g_v rfl (r_geq rfl rfl) <| g_nil <| d_then ?_
   refine c_cond rfl (fun h204 => ?_) (fun h204 => ?_)
   ·
    replace hm := ite_t hm (of_decide_eq_true h204)
    refine c_region <| g_v rfl r_move <| g_v rfl (r_field (n := 0) Try.underlying84 rfl Try.sizeOf43 rfl rfl) <| g_v rfl (r_field (n := 13) Try.underlying43 rfl Try.sizeOf41 rfl rfl) <| g_v rfl (r_load (tag := 100020) rfl rfl rfl Try.isAgg41) <| g_v rfl r_move ?_
    replace hm := bnd hm
    obtain ⟨x205, hx205, hm⟩ := hm
    refine g_know _ (fun W hS => cl_at (p := φ) (sz := 3) (fun _ => rfl) (by decide) hS.now fp0_3 hx205) ?_
    rintro ⟨ad206, hA208, f207⟩
    refine g_v rfl (r_ix Try.underlying41 Try.sizeOf105 rfl hA208 rfl hx205) <| g_v rfl (r_ldA rfl Try.isAgg105 Try.sizeOf105 (fun W hS => (f207 W hS.now).take 3) rfl) ?_
    refine g_e rfl (e_lit (tag := 100300) (l := [x205]) (enc := GMark.enc) (sz := 3) rfl Try.underlying41 (lit105_14 _ _ _) rfl rfl (fun _ => rfl)) (fun g209 _ => ?_)
    replace hm := bnd hm
    obtain ⟨l210, hl210, hm⟩ := hm
    refine g_e rfl (e_appR (enc := GMark.enc) (l := l166) (l1 := [x205]) (l2 := l210) (tag := 14) Try.underlying41 inf105_15 rfl (by decide) (by decide) (fun _ => rfl) (fun _ => rfl) rfl hc168 rfl rfl (fun W hS => rowCl (tag := 100300) rfl W hS) hl210) (fun ⟨A211, c212⟩ hc212 => ?_)
    refine g_v rfl r_assign <| g_nil <| d_normal_block <| d_then ?_
    refine c_flat [(1, .int .i64 p1), (2, .pointer (some ⟨g1, 0, none⟩)), (5, .slice A211 l210.length c212), (10, .slice A4 x2.length c5), (11, .int .i64 (x2.length : Int)), (12, .int .i64 i169)] ⟨rfl, rfl, rfl, rfl, rfl, rfl, trivial⟩ (fun u => ?_)
    refine c_sta ⟨w0, M, (100070, g201, .cells #[.int .i64 x197] 3 (0, 0)) :: (100020, g1, .cells #[.int .i64 p0.fRaft.fMe, .int .i64 p0.fRaft.fRole, .int .i64 p0.fRaft.fLeader, .int .i64 p0.fRaft.fCommit, .int .i64 p0.fRaft.fLeft, .int .i64 p0.fRaft.fHard.fTerm, .int .i64 p0.fRaft.fHard.fVote, .slice Ap0_0 p0.fRaft.fHard.fVoters.length cp0_0, .string p0.fRaft.fHard.fSnap, .int .i64 p0.fRaft.fHard.fLog.fBase, .int .i64 p0.fRaft.fHard.fLog.fBaseTerm, .slice Ap0_1 p0.fRaft.fHard.fLog.fEntries.length cp0_1, .slice Ap0_2 p0.fRaft.fVotes.length cp0_2, .slice Ap0_3 p0.fRaft.fMarks.length cp0_3] 84 (0, 0)) :: H, (100300, ⟨.slice (some ⟨g209, 0, none⟩) [x205].length 1, 105, 3, [x205].length, [x205].flatMap GMark.enc⟩) :: (14, ⟨.slice A211 l210.length c212, 105, 3, l210.length, l210.flatMap GMark.enc⟩) :: (100100, ⟨.slice A4 x2.length c5, 3, 1, x2.length, x2.flatMap (fun x : Int => [Value.int .i64 x])⟩) :: R, φ⟩ (fun _ h => h) <| c_region <| g_v rfl (r_add rfl rfl rfl) <| g_v rfl r_move <| g_nil ?_
    obtain ⟨n213, hn213, hlp⟩ := nx_inl hm hnx2
    exact d_round (n213, l210, w64 (i169 + 1), A211, c212) ⟨hlp, hc212⟩ hn213 ⟨rfl, rfl, rfl, rfl, rfl, rfl, trivial⟩ (fun W h => ((h.dropR (t := 100300) rfl).dropH (t := 100070) rfl).phi (fun W hφ => hφ))
   replace hm := ite_f hm (of_decide_eq_false h204)
   refine c_region <| g_v rfl r_move <| g_v rfl (r_load (tag := 100070) rfl rfl rfl Try.isAgg3) <| g_v rfl r_move <| g_v rfl (r_build _ rfl (bld105_16 _ _)) ?_
   refine g_e rfl (e_lit (tag := 100360) (l := [(⟨x197, p1, 0⟩ : GMark)]) (enc := GMark.enc) (sz := 3) rfl Try.underlying41 (lit105_14 _ _ _) rfl rfl (fun _ => rfl)) (fun g214 _ => ?_)
   replace hm := bnd hm
   obtain ⟨l215, hl215, hm⟩ := hm
   refine g_e rfl (e_appR (enc := GMark.enc) (l := l166) (l1 := [(⟨x197, p1, 0⟩ : GMark)]) (l2 := l215) (tag := 14) Try.underlying41 inf105_15 rfl (by decide) (by decide) (fun _ => rfl) (fun _ => rfl) rfl hc168 rfl rfl (fun W hS => rowCl (tag := 100360) rfl W hS) hl215) (fun ⟨A216, c217⟩ hc217 => ?_)
   refine g_v rfl r_assign <| g_nil <| d_normal_block <| d_then ?_
   refine c_flat [(1, .int .i64 p1), (2, .pointer (some ⟨g1, 0, none⟩)), (5, .slice A216 l215.length c217), (10, .slice A4 x2.length c5), (11, .int .i64 (x2.length : Int)), (12, .int .i64 i169)] ⟨rfl, rfl, rfl, rfl, rfl, rfl, trivial⟩ (fun u => ?_)
   refine c_sta ⟨w0, M, (100070, g201, .cells #[.int .i64 x197] 3 (0, 0)) :: (100020, g1, .cells #[.int .i64 p0.fRaft.fMe, .int .i64 p0.fRaft.fRole, .int .i64 p0.fRaft.fLeader, .int .i64 p0.fRaft.fCommit, .int .i64 p0.fRaft.fLeft, .int .i64 p0.fRaft.fHard.fTerm, .int .i64 p0.fRaft.fHard.fVote, .slice Ap0_0 p0.fRaft.fHard.fVoters.length cp0_0, .string p0.fRaft.fHard.fSnap, .int .i64 p0.fRaft.fHard.fLog.fBase, .int .i64 p0.fRaft.fHard.fLog.fBaseTerm, .slice Ap0_1 p0.fRaft.fHard.fLog.fEntries.length cp0_1, .slice Ap0_2 p0.fRaft.fVotes.length cp0_2, .slice Ap0_3 p0.fRaft.fMarks.length cp0_3] 84 (0, 0)) :: H, (100360, ⟨.slice (some ⟨g214, 0, none⟩) [(⟨x197, p1, 0⟩ : GMark)].length 1, 105, 3, [(⟨x197, p1, 0⟩ : GMark)].length, [(⟨x197, p1, 0⟩ : GMark)].flatMap GMark.enc⟩) :: (14, ⟨.slice A216 l215.length c217, 105, 3, l215.length, l215.flatMap GMark.enc⟩) :: (100100, ⟨.slice A4 x2.length c5, 3, 1, x2.length, x2.flatMap (fun x : Int => [Value.int .i64 x])⟩) :: R, φ⟩ (fun _ h => h) <| c_region <| g_v rfl (r_add rfl rfl rfl) <| g_v rfl r_move <| g_nil ?_
   obtain ⟨n218, hn218, hlp⟩ := nx_inl hm hnx2
   exact d_round (n218, l215, w64 (i169 + 1), A216, c217) ⟨hlp, hc217⟩ hn218 ⟨rfl, rfl, rfl, rfl, rfl, rfl, trivial⟩ (fun W h => ((h.dropR (t := 100360) rfl).dropH (t := 100070) rfl).phi (fun W hφ => hφ))
  replace hm := ite_f hm (of_decide_eq_false h196)
  refine c_exit <| d_exit_then <| d_exit_then <| d_exit_block ?_
  replace hm := nx_out (C := (fun e : (List GMark) => m_raft_state_marks_j1 e = some r)) hm hnx2 hr2
  exact d_round (l166, A167, c168) ⟨hm, hc168⟩ Nat.zero_lt_one ⟨rfl, trivial⟩ (fun W h => ((h.dropR (t := 100100) rfl).dropH (t := 100020) rfl).phi (fun W hφ => hφ))
 unfold m_raft_state_marks_j1 at hm
 refine d_flat [(5, .slice A139 l138.length c140)] ⟨rfl, trivial⟩ (fun u => ?_)
 refine d_sta ⟨w0, M, H, (14, ⟨.slice A139 l138.length c140, 105, 3, l138.length, l138.flatMap GMark.enc⟩) :: R, φ⟩ (fun _ h => h) <| d_then <| c_seq <| c_region <| g_v rfl r_move <| g_v rfl r_assign <| g_nil <| d_then <| c_ret ?_
 cases hm
 refine d_sta _ (fun W h => ok_frontR (t := 14) (t' := 2000) h rfl) ?_
 exact d_retC (A139, c140) Try.results45 (res_tmp (res_nil rfl)) hc140 (fun W h => h.phi (fun W hφ => hφ)) (.inr rfl)
noncomputable def m_raft_state_commit_c1_j1  (l37 : List Int) : Option (List Int) :=
  some l37
noncomputable def m_raft_state_commit_c1_s2 (o0 : Graft_state) (p0 : Int) (l55 : List Int) (i58 : Int) : Option (((List Int) × Int) ⊕ (List Int)) :=
  if i58 < (o0.fRaft.fMarks.length : Int) then
    (at_ o0.fRaft.fMarks i58).bind fun x76 =>
    if p0 ≤ x76.fMatch then
      (app 8 l55 [x76.fNode]).bind fun l83 =>
      some (.inl (l83, w64 (i58 + 1)))
    else
      some (.inl (l55, w64 (i58 + 1)))
  else
    some (.inr l55)
noncomputable def m_raft_state_commit_c1 (p0 : Int) (o0 : Graft_state) : Option (List Int) :=
  (loop (fun s => m_raft_state_commit_c1_s2 o0 p0 s.1 s.2) ([o0.fRaft.fMe], 0)).bind fun e => m_raft_state_commit_c1_j1 e
theorem c_raft_state_commit_c1 {w0 : World} {M : Nat → Prop} {H : List (Nat × Nat × Obj)} {R : List (Nat × Row)} {φ : World → Prop} (p0 : Int) (go0 : Nat) (o0 : Graft_state) (Ao0_0 : Option Addr) (co0_0 : Nat) (hco0_0 : o0.fRaft.fHard.fVoters.length ≤ co0_0) (fo0_0 : ∀ W, φ W → Cl W Ao0_0 (o0.fRaft.fHard.fVoters.flatMap (fun x : Int => [Value.int .i64 x]))) (Ao0_1 : Option Addr) (co0_1 : Nat) (hco0_1 : o0.fRaft.fHard.fLog.fEntries.length ≤ co0_1) (fo0_1 : ∀ W, φ W → Cl W Ao0_1 (o0.fRaft.fHard.fLog.fEntries.flatMap GEntry.enc)) (Ao0_2 : Option Addr) (co0_2 : Nat) (hco0_2 : o0.fRaft.fVotes.length ≤ co0_2) (fo0_2 : ∀ W, φ W → Cl W Ao0_2 (o0.fRaft.fVotes.flatMap (fun x : Int => [Value.int .i64 x]))) (Ao0_3 : Option Addr) (co0_3 : Nat) (hco0_3 : o0.fRaft.fMarks.length ≤ co0_3) (fo0_3 : ∀ W, φ W → Cl W Ao0_3 (o0.fRaft.fMarks.flatMap GMark.enc)) (r : (List Int)) (hm : m_raft_state_commit_c1 p0 o0 = some r) :
    Cn Try.prog 73 #[.int .i64 p0, .pointer (some ⟨go0, 0, none⟩)] ⟨w0, M, (1000, go0, .cells #[.int .i64 o0.fRaft.fMe, .int .i64 o0.fRaft.fRole, .int .i64 o0.fRaft.fLeader, .int .i64 o0.fRaft.fCommit, .int .i64 o0.fRaft.fLeft, .int .i64 o0.fRaft.fHard.fTerm, .int .i64 o0.fRaft.fHard.fVote, .slice Ao0_0 o0.fRaft.fHard.fVoters.length co0_0, .string o0.fRaft.fHard.fSnap, .int .i64 o0.fRaft.fHard.fLog.fBase, .int .i64 o0.fRaft.fHard.fLog.fBaseTerm, .slice Ao0_1 o0.fRaft.fHard.fLog.fEntries.length co0_1, .slice Ao0_2 o0.fRaft.fVotes.length co0_2, .slice Ao0_3 o0.fRaft.fMarks.length co0_3] 84 (0, 0)) :: H, R, φ⟩ (fun x : Option Addr × Nat => .slice x.1 r.length x.2) (fun x => r.length ≤ x.2) (fun x => ⟨w0, M, (1000, go0, .cells #[.int .i64 o0.fRaft.fMe, .int .i64 o0.fRaft.fRole, .int .i64 o0.fRaft.fLeader, .int .i64 o0.fRaft.fCommit, .int .i64 o0.fRaft.fLeft, .int .i64 o0.fRaft.fHard.fTerm, .int .i64 o0.fRaft.fHard.fVote, .slice Ao0_0 o0.fRaft.fHard.fVoters.length co0_0, .string o0.fRaft.fHard.fSnap, .int .i64 o0.fRaft.fHard.fLog.fBase, .int .i64 o0.fRaft.fHard.fLog.fBaseTerm, .slice Ao0_1 o0.fRaft.fHard.fLog.fEntries.length co0_1, .slice Ao0_2 o0.fRaft.fVotes.length co0_2, .slice Ao0_3 o0.fRaft.fMarks.length co0_3] 84 (0, 0)) :: H, (2000, ⟨.slice x.1 r.length x.2, 3, 1, r.length, r.flatMap (fun x : Int => [Value.int .i64 x])⟩) :: R, φ⟩) := by
 unfold m_raft_state_commit_c1 at hm
 refine cn_intro (fn := Try.f73) (N := 30) Try.func73 rfl Try.ntmps73 rfl <| c_seq <| c_region <| g_v rfl r_assign <| g_nil <| d_then <| c_seq <| c_region <| g_v rfl (r_field (n := 0) Try.underlying84 rfl Try.sizeOf43 rfl rfl) <| g_v rfl (r_field (n := 0) Try.underlying43 rfl Try.sizeOf3 rfl rfl) ?_
 refine g_v rfl (r_load (tag := 1000) rfl rfl rfl Try.isAgg3) ?_
 refine g_e rfl (e_lit (tag := 100100) (l := [o0.fRaft.fMe]) (enc := (fun x : Int => [Value.int .i64 x])) (sz := 1) rfl Try.underlying23 (lit3_0 _) rfl rfl (fun _ => rfl)) (fun g1 _ => ?_)
 refine g_v rfl r_assign <| g_nil <| d_then <| c_seq <| c_seq <| c_region <| g_v rfl (r_field (n := 0) Try.underlying84 rfl Try.sizeOf43 rfl rfl) <| g_v rfl (r_field (n := 13) Try.underlying43 rfl Try.sizeOf41 rfl rfl) <| g_v rfl (r_load (tag := 1000) rfl rfl rfl Try.isAgg41) <| g_v rfl (r_lenL Try.underlying41 rfl) ?_
 refine g_v rfl r_move <| g_nil <| d_then ?_
 refine c_flat [(0, .int .i64 p0), (4, .slice (some ⟨g1, 0, none⟩) [o0.fRaft.fMe].length 1), (13, .slice Ao0_3 o0.fRaft.fMarks.length co0_3), (14, .int .i64 (o0.fRaft.fMarks.length : Int)), (15, .int .i64 0)] ⟨rfl, rfl, rfl, rfl, rfl, trivial⟩ (fun u => ?_)
 refine c_sta ⟨w0, M, (1000, go0, .cells #[.int .i64 o0.fRaft.fMe, .int .i64 o0.fRaft.fRole, .int .i64 o0.fRaft.fLeader, .int .i64 o0.fRaft.fCommit, .int .i64 o0.fRaft.fLeft, .int .i64 o0.fRaft.fHard.fTerm, .int .i64 o0.fRaft.fHard.fVote, .slice Ao0_0 o0.fRaft.fHard.fVoters.length co0_0, .string o0.fRaft.fHard.fSnap, .int .i64 o0.fRaft.fHard.fLog.fBase, .int .i64 o0.fRaft.fHard.fLog.fBaseTerm, .slice Ao0_1 o0.fRaft.fHard.fLog.fEntries.length co0_1, .slice Ao0_2 o0.fRaft.fVotes.length co0_2, .slice Ao0_3 o0.fRaft.fMarks.length co0_3] 84 (0, 0)) :: H, (100100, ⟨.slice (some ⟨g1, 0, none⟩) [o0.fRaft.fMe].length 1, 3, 1, [o0.fRaft.fMe].length, [o0.fRaft.fMe].flatMap (fun x : Int => [Value.int .i64 x])⟩) :: R, φ⟩ (fun _ h => h) ?_
 refine c_cut (ι := (List Int) × Option Addr × Nat) [4] (fun ⟨l37, A38, c39⟩ => [(4, .slice A38 l37.length c39)]) (fun ⟨l37, A38, c39⟩ => ⟨w0, M, (1000, go0, .cells #[.int .i64 o0.fRaft.fMe, .int .i64 o0.fRaft.fRole, .int .i64 o0.fRaft.fLeader, .int .i64 o0.fRaft.fCommit, .int .i64 o0.fRaft.fLeft, .int .i64 o0.fRaft.fHard.fTerm, .int .i64 o0.fRaft.fHard.fVote, .slice Ao0_0 o0.fRaft.fHard.fVoters.length co0_0, .string o0.fRaft.fHard.fSnap, .int .i64 o0.fRaft.fHard.fLog.fBase, .int .i64 o0.fRaft.fHard.fLog.fBaseTerm, .slice Ao0_1 o0.fRaft.fHard.fLog.fEntries.length co0_1, .slice Ao0_2 o0.fRaft.fVotes.length co0_2, .slice Ao0_3 o0.fRaft.fMarks.length co0_3] 84 (0, 0)) :: H, (100100, ⟨.slice A38 l37.length c39, 3, 1, l37.length, l37.flatMap (fun x : Int => [Value.int .i64 x])⟩) :: R, φ⟩) (fun ⟨l37, A38, c39⟩ => m_raft_state_commit_c1_j1 l37 = some r ∧ l37.length ≤ c39) ?_ (fun ⟨l37, A38, c39⟩ u ⟨hm, hc39⟩ => ?_)
 ·
  refine c_block ?_
  replace hm := bnd hm
  obtain ⟨out2, hl2, hr2⟩ := hm
  obtain ⟨n74', hl2⟩ := loop_lp hl2
  refine c_loopU (ι := Nat × (List Int) × Int × Option Addr × Nat) [0, 4, 13, 14, 15] (fun ⟨n74, l55, i58, A56, c57⟩ => [(4, .slice A56 l55.length c57), (15, .int .i64 i58)]) (fun ⟨n74, l55, i58, A56, c57⟩ => ⟨w0, M, (1000, go0, .cells #[.int .i64 o0.fRaft.fMe, .int .i64 o0.fRaft.fRole, .int .i64 o0.fRaft.fLeader, .int .i64 o0.fRaft.fCommit, .int .i64 o0.fRaft.fLeft, .int .i64 o0.fRaft.fHard.fTerm, .int .i64 o0.fRaft.fHard.fVote, .slice Ao0_0 o0.fRaft.fHard.fVoters.length co0_0, .string o0.fRaft.fHard.fSnap, .int .i64 o0.fRaft.fHard.fLog.fBase, .int .i64 o0.fRaft.fHard.fLog.fBaseTerm, .slice Ao0_1 o0.fRaft.fHard.fLog.fEntries.length co0_1, .slice Ao0_2 o0.fRaft.fVotes.length co0_2, .slice Ao0_3 o0.fRaft.fMarks.length co0_3] 84 (0, 0)) :: H, (100100, ⟨.slice A56 l55.length c57, 3, 1, l55.length, l55.flatMap (fun x : Int => [Value.int .i64 x])⟩) :: R, φ⟩) (fun ⟨n74, l55, i58, A56, c57⟩ => Lp (fun s => m_raft_state_commit_c1_s2 o0 p0 s.1 s.2) n74 (l55, i58) out2 ∧ l55.length ≤ c57) (fun ⟨n74, l55, i58, A56, c57⟩ => n74) (n74', [o0.fRaft.fMe], 0, some ⟨g1, 0, none⟩, 1) ⟨hl2, (Nat.le_refl _)⟩ ⟨rfl, rfl, rfl, rfl, rfl, trivial⟩ (fun W h => h.phi (fun W hφ => hφ)) (fun ⟨n74, l55, i58, A56, c57⟩ u ⟨hlp, hc57⟩ => ?_)
  obtain ⟨o2, hm, hnx2⟩ := lp_step hlp
  clear hlp
  replace hm : m_raft_state_commit_c1_s2 o0 p0 l55 i58 = some o2 := hm
  unfold m_raft_state_commit_c1_s2 at hm
  refine c_flat [(0, .int .i64 p0), (4, .slice A56 l55.length c57), (13, .slice Ao0_3 o0.fRaft.fMarks.length co0_3), (14, .int .i64 (o0.fRaft.fMarks.length : Int)), (15, .int .i64 i58)] ⟨rfl, rfl, rfl, rfl, rfl, trivial⟩ (fun u => ?_)
  refine c_sta ⟨w0, M, (1000, go0, .cells #[.int .i64 o0.fRaft.fMe, .int .i64 o0.fRaft.fRole, .int .i64 o0.fRaft.fLeader, .int .i64 o0.fRaft.fCommit, .int .i64 o0.fRaft.fLeft, .int .i64 o0.fRaft.fHard.fTerm, .int .i64 o0.fRaft.fHard.fVote, .slice Ao0_0 o0.fRaft.fHard.fVoters.length co0_0, .string o0.fRaft.fHard.fSnap, .int .i64 o0.fRaft.fHard.fLog.fBase, .int .i64 o0.fRaft.fHard.fLog.fBaseTerm, .slice Ao0_1 o0.fRaft.fHard.fLog.fEntries.length co0_1, .slice Ao0_2 o0.fRaft.fVotes.length co0_2, .slice Ao0_3 o0.fRaft.fMarks.length co0_3] 84 (0, 0)) :: H, (100100, ⟨.slice A56 l55.length c57, 3, 1, l55.length, l55.flatMap (fun x : Int => [Value.int .i64 x])⟩) :: R, φ⟩ (fun _ h => h) <| c_seq <| c_region <| g_v rfl (r_lss rfl rfl) <| g_nil <| d_then <| c_seq ?_
  refine c_cond rfl (fun h75 => ?_) (fun h75 => ?_)
  ·
   replace hm := ite_t hm (of_decide_eq_true h75)
   refine c_skip <| d_then <| c_seq <| c_block <| c_seq <| c_region ?_
   replace hm := bnd hm
   obtain ⟨x76, hx76, hm⟩ := hm
   refine g_know _ (fun W hS => cl_at (p := φ) (sz := 3) (fun _ => rfl) (by decide) hS.now fo0_3 hx76) ?_
   rintro ⟨ad77, hA79, f78⟩
   refine g_v rfl (r_ix Try.underlying41 Try.sizeOf105 rfl hA79 rfl hx76) <| g_v rfl (r_ldA rfl Try.isAgg105 Try.sizeOf105 (fun W hS => (f78 W hS.now).take 3) rfl) ?_
   refine g_e rfl (e_alloc 100060 Try.zeroValue105) (fun g80 _ => ?_)
   refine g_storeL (tag := 100060) rfl rfl rfl rfl Try.sizeOf105 rfl rfl <| g_nil <| d_then <| c_seq <| c_region <| g_v rfl (r_field (n := 2) Try.underlying105 rfl Try.sizeOf3 rfl rfl) <| g_v rfl (r_load (tag := 100060) rfl rfl rfl Try.isAgg3) <| g_v rfl r_move <| g_v rfl (r_geq rfl rfl) <| g_nil ?_
   refine d_then ?_
   refine c_flat [(0, .int .i64 p0), (4, .slice A56 l55.length c57), (6, .pointer (some ⟨g80, 0, none⟩)), (13, .slice Ao0_3 o0.fRaft.fMarks.length co0_3), (14, .int .i64 (o0.fRaft.fMarks.length : Int)), (15, .int .i64 i58), (22, .bool (decide (p0 ≤ x76.fMatch)))] ⟨rfl, rfl, rfl, rfl, rfl, rfl, rfl, trivial⟩ (fun u => ?_)
   refine c_sta ⟨w0, M, (100060, g80, .cells #[.int .i64 x76.fNode, .int .i64 x76.fNext, .int .i64 x76.fMatch] 105 (0, 0)) :: (1000, go0, .cells #[.int .i64 o0.fRaft.fMe, .int .i64 o0.fRaft.fRole, .int .i64 o0.fRaft.fLeader, .int .i64 o0.fRaft.fCommit, .int .i64 o0.fRaft.fLeft, .int .i64 o0.fRaft.fHard.fTerm, .int .i64 o0.fRaft.fHard.fVote, .slice Ao0_0 o0.fRaft.fHard.fVoters.length co0_0, .string o0.fRaft.fHard.fSnap, .int .i64 o0.fRaft.fHard.fLog.fBase, .int .i64 o0.fRaft.fHard.fLog.fBaseTerm, .slice Ao0_1 o0.fRaft.fHard.fLog.fEntries.length co0_1, .slice Ao0_2 o0.fRaft.fVotes.length co0_2, .slice Ao0_3 o0.fRaft.fMarks.length co0_3] 84 (0, 0)) :: H, (100100, ⟨.slice A56 l55.length c57, 3, 1, l55.length, l55.flatMap (fun x : Int => [Value.int .i64 x])⟩) :: R, φ⟩ (fun _ h => h) ?_
   refine c_cond rfl (fun h81 => ?_) (fun h81 => ?_)
   ·
    replace hm := ite_t hm (of_decide_eq_true h81)
    refine c_region <| g_v rfl r_move <| g_v rfl (r_field (n := 0) Try.underlying105 rfl Try.sizeOf3 rfl rfl) <| g_v rfl (r_load (tag := 100060) rfl rfl rfl Try.isAgg3) ?_
    refine g_e rfl (e_lit (tag := 100260) (l := [x76.fNode]) (enc := (fun x : Int => [Value.int .i64 x])) (sz := 1) rfl Try.underlying23 (lit3_0 _) rfl rfl (fun _ => rfl)) (fun g82 _ => ?_)
    replace hm := bnd hm
    obtain ⟨l83, hl83, hm⟩ := hm
    refine g_e rfl (e_appR (enc := (fun x : Int => [Value.int .i64 x])) (l := l55) (l1 := [x76.fNode]) (l2 := l83) (tag := 100100) Try.underlying23 inf3_10 rfl (by decide) (by decide) (fun _ => rfl) (fun _ => rfl) rfl hc57 rfl rfl (fun W hS => rowCl (tag := 100260) rfl W hS) hl83) (fun ⟨A84, c85⟩ hc85 => ?_)
    refine g_v rfl r_assign <| g_nil <| d_normal_block <| d_then <| c_region <| g_v rfl (r_add rfl rfl rfl) <| g_v rfl r_move <| g_nil ?_
    obtain ⟨n86, hn86, hlp⟩ := nx_inl hm hnx2
    exact d_round (n86, l83, w64 (i58 + 1), A84, c85) ⟨hlp, hc85⟩ hn86 ⟨rfl, rfl, rfl, rfl, rfl, trivial⟩ (fun W h => ((h.dropR (t := 100260) rfl).dropH (t := 100060) rfl).phi (fun W hφ => hφ))
   replace hm := ite_f hm (of_decide_eq_false h81)
   refine c_skip <| d_normal_block <| d_then <| c_region <| g_v rfl (r_add rfl rfl rfl) <| g_v rfl r_move <| g_nil ?_
   obtain ⟨n87, hn87, hlp⟩ := nx_inl hm hnx2
   exact d_round (n87, l55, w64 (i58 + 1), A56, c57) ⟨hlp, hc57⟩ hn87 ⟨rfl, rfl, rfl, rfl, rfl, trivial⟩ (fun W h => (h.dropH (t := 100060) rfl).phi (fun W hφ => hφ))
  replace hm := ite_f hm (of_decide_eq_false h75)
  refine c_exit <| d_exit_then <| d_exit_then <| d_exit_block ?_
  replace hm := nx_out (C := (fun e : (List Int) => m_raft_state_commit_c1_j1 e = some r)) hm hnx2 hr2
  exact d_round (l55, A56, c57) ⟨hm, hc57⟩ Nat.zero_lt_one ⟨rfl, trivial⟩ (fun W h => h.phi (fun W hφ => hφ))
 unfold m_raft_state_commit_c1_j1 at hm
 refine d_flat [(4, .slice A38 l37.length c39)] ⟨rfl, trivial⟩ (fun u => ?_)
 refine d_sta ⟨w0, M, (1000, go0, .cells #[.int .i64 o0.fRaft.fMe, .int .i64 o0.fRaft.fRole, .int .i64 o0.fRaft.fLeader, .int .i64 o0.fRaft.fCommit, .int .i64 o0.fRaft.fLeft, .int .i64 o0.fRaft.fHard.fTerm, .int .i64 o0.fRaft.fHard.fVote, .slice Ao0_0 o0.fRaft.fHard.fVoters.length co0_0, .string o0.fRaft.fHard.fSnap, .int .i64 o0.fRaft.fHard.fLog.fBase, .int .i64 o0.fRaft.fHard.fLog.fBaseTerm, .slice Ao0_1 o0.fRaft.fHard.fLog.fEntries.length co0_1, .slice Ao0_2 o0.fRaft.fVotes.length co0_2, .slice Ao0_3 o0.fRaft.fMarks.length co0_3] 84 (0, 0)) :: H, (100100, ⟨.slice A38 l37.length c39, 3, 1, l37.length, l37.flatMap (fun x : Int => [Value.int .i64 x])⟩) :: R, φ⟩ (fun _ h => h) <| d_then <| c_seq <| c_region <| g_v rfl r_move <| g_v rfl r_assign <| g_nil <| d_then <| c_ret ?_
 cases hm
 refine d_sta _ (fun W h => ok_frontR (t := 100100) (t' := 2000) h rfl) ?_
 exact d_retC (A38, c39) Try.results73 (res_tmp (res_nil rfl)) hc39 (fun W h => h.phi (fun W hφ => hφ)) (.inr rfl)
noncomputable def m_raft_state_commit_j1 (p0 : Graft_state) (i44 : Int) : Option Graft_state :=
  some (⟨(⟨p0.fRaft.fMe, p0.fRaft.fRole, p0.fRaft.fLeader, i44, p0.fRaft.fLeft, p0.fRaft.fHard, p0.fRaft.fVotes, p0.fRaft.fMarks⟩ : GRaft)⟩ : Graft_state)
noncomputable def m_raft_state_commit_s2 (p0 : Graft_state) (x7 : List Int) (i60 : Int) : Option (Int ⊕ Int) :=
  if p0.fRaft.fCommit < i60 then
    (m_plog_Term p0.fRaft.fHard.fLog i60).bind fun (z81 : Int × Bool) =>
    if z81.1 = p0.fRaft.fHard.fTerm then
      (m_raft_state_commit_c1 i60 p0).bind fun x83 =>
      (m_raft_Majority x7 x83).bind fun x88 =>
      if x88 = true then
        some (.inr i60)
      else
        some (.inl (w64 (i60 - 1)))
    else
      some (.inl (w64 (i60 - 1)))
  else
    some (.inr p0.fRaft.fCommit)
noncomputable def m_raft_state_commit (p0 : Graft_state) : Option Graft_state :=
  (m_raft_state_last p0).bind fun (z6 : Int × Int) =>
  (m_raft_state_voters p0).bind fun x7 =>
  (loop (fun s => m_raft_state_commit_s2 p0 x7 s) z6.1).bind fun e => m_raft_state_commit_j1 p0 e
theorem c_raft_state_commit {w0 : World} {M : Nat → Prop} {H : List (Nat × Nat × Obj)} {R : List (Nat × Row)} {φ : World → Prop} (p0 : Graft_state) (Ap0_0 : Option Addr) (cp0_0 : Nat) (hcp0_0 : p0.fRaft.fHard.fVoters.length ≤ cp0_0) (fp0_0 : ∀ W, φ W → Cl W Ap0_0 (p0.fRaft.fHard.fVoters.flatMap (fun x : Int => [Value.int .i64 x]))) (Ap0_1 : Option Addr) (cp0_1 : Nat) (hcp0_1 : p0.fRaft.fHard.fLog.fEntries.length ≤ cp0_1) (fp0_1 : ∀ W, φ W → Cl W Ap0_1 (p0.fRaft.fHard.fLog.fEntries.flatMap GEntry.enc)) (Ap0_2 : Option Addr) (cp0_2 : Nat) (hcp0_2 : p0.fRaft.fVotes.length ≤ cp0_2) (fp0_2 : ∀ W, φ W → Cl W Ap0_2 (p0.fRaft.fVotes.flatMap (fun x : Int => [Value.int .i64 x]))) (Ap0_3 : Option Addr) (cp0_3 : Nat) (hcp0_3 : p0.fRaft.fMarks.length ≤ cp0_3) (fp0_3 : ∀ W, φ W → Cl W Ap0_3 (p0.fRaft.fMarks.flatMap GMark.enc)) (r : Graft_state) (hm : m_raft_state_commit p0 = some r) :
    Cn Try.prog 46 #[.agg #[.int .i64 p0.fRaft.fMe, .int .i64 p0.fRaft.fRole, .int .i64 p0.fRaft.fLeader, .int .i64 p0.fRaft.fCommit, .int .i64 p0.fRaft.fLeft, .int .i64 p0.fRaft.fHard.fTerm, .int .i64 p0.fRaft.fHard.fVote, .slice Ap0_0 p0.fRaft.fHard.fVoters.length cp0_0, .string p0.fRaft.fHard.fSnap, .int .i64 p0.fRaft.fHard.fLog.fBase, .int .i64 p0.fRaft.fHard.fLog.fBaseTerm, .slice Ap0_1 p0.fRaft.fHard.fLog.fEntries.length cp0_1, .slice Ap0_2 p0.fRaft.fVotes.length cp0_2, .slice Ap0_3 p0.fRaft.fMarks.length cp0_3]] ⟨w0, M, H, R, φ⟩ (fun x : Option Addr × Nat × Option Addr × Nat × Option Addr × Nat × Option Addr × Nat => .agg #[.int .i64 r.fRaft.fMe, .int .i64 r.fRaft.fRole, .int .i64 r.fRaft.fLeader, .int .i64 r.fRaft.fCommit, .int .i64 r.fRaft.fLeft, .int .i64 r.fRaft.fHard.fTerm, .int .i64 r.fRaft.fHard.fVote, .slice x.1 r.fRaft.fHard.fVoters.length x.2.1, .string r.fRaft.fHard.fSnap, .int .i64 r.fRaft.fHard.fLog.fBase, .int .i64 r.fRaft.fHard.fLog.fBaseTerm, .slice x.2.2.1 r.fRaft.fHard.fLog.fEntries.length x.2.2.2.1, .slice x.2.2.2.2.1 r.fRaft.fVotes.length x.2.2.2.2.2.1, .slice x.2.2.2.2.2.2.1 r.fRaft.fMarks.length x.2.2.2.2.2.2.2]) (fun x => r.fRaft.fHard.fVoters.length ≤ x.2.1 ∧ r.fRaft.fHard.fLog.fEntries.length ≤ x.2.2.2.1 ∧ r.fRaft.fVotes.length ≤ x.2.2.2.2.2.1 ∧ r.fRaft.fMarks.length ≤ x.2.2.2.2.2.2.2) (fun x => ⟨w0, M, H, R, fun W => φ W ∧ Cl W x.1 (r.fRaft.fHard.fVoters.flatMap (fun x : Int => [Value.int .i64 x])) ∧ Cl W x.2.2.1 (r.fRaft.fHard.fLog.fEntries.flatMap GEntry.enc) ∧ Cl W x.2.2.2.2.1 (r.fRaft.fVotes.flatMap (fun x : Int => [Value.int .i64 x])) ∧ Cl W x.2.2.2.2.2.2.1 (r.fRaft.fMarks.flatMap GMark.enc)⟩) := by
 unfold m_raft_state_commit at hm
 refine cn_intro (fn := Try.f46) (N := 52) Try.func46 rfl Try.ntmps46 rfl <| c_seq <| c_region ?_
 refine g_e rfl (e_box 100010 rfl) (fun g1 _ => ?_)
 refine g_e rfl (e_alloc 100020 Try.zeroValue84) (fun g2 _ => ?_)
 refine g_nil <| d_then <| c_seq <| c_region <| g_v rfl (r_loadA (tag := 100010) rfl rfl Try.isAgg84 Try.sizeOf84 rfl rfl) ?_
 replace hm := bnd hm
 obtain ⟨⟨x3, x4⟩, hx5, hm⟩ := hm
 refine g_cn ⟨w0, M, _, _, φ⟩ (fun _ h => h) Try.call42 rfl rfl (c_raft_state_last p0 Ap0_0 cp0_0 hcp0_0 (fun W hS => fp0_0 W hS.now) Ap0_1 cp0_1 hcp0_1 (fun W hS => fp0_1 W hS.now) Ap0_2 cp0_2 hcp0_2 (fun W hS => fp0_2 W hS.now) Ap0_3 cp0_3 hcp0_3 (fun W hS => fp0_3 W hS.now) _ hx5) (fun _ _ => ?_)
 refine g_v rfl r_move <| g_v rfl (r_extract rfl rfl) <| g_v rfl (r_extract rfl rfl) <| g_v rfl r_assign <| g_v rfl r_assign <| g_nil <| d_then ?_
 refine c_flat [(1, .pointer (some ⟨g1, 0, none⟩)), (2, .pointer (some ⟨g2, 0, none⟩)), (3, .int .i64 x3)] ⟨rfl, rfl, rfl, trivial⟩ (fun u => ?_)
 refine c_sta ⟨w0, M, (100020, g2, .cells #[.int .i64 0, .int .i64 0, .int .i64 0, .int .i64 0, .int .i64 0, .int .i64 0, .int .i64 0, .slice none 0 0, .string (⟨#[]⟩ : ByteArray), .int .i64 0, .int .i64 0, .slice none 0 0, .slice none 0 0, .slice none 0 0] 84 (0, 0)) :: (100010, g1, .cells #[.int .i64 p0.fRaft.fMe, .int .i64 p0.fRaft.fRole, .int .i64 p0.fRaft.fLeader, .int .i64 p0.fRaft.fCommit, .int .i64 p0.fRaft.fLeft, .int .i64 p0.fRaft.fHard.fTerm, .int .i64 p0.fRaft.fHard.fVote, .slice Ap0_0 p0.fRaft.fHard.fVoters.length cp0_0, .string p0.fRaft.fHard.fSnap, .int .i64 p0.fRaft.fHard.fLog.fBase, .int .i64 p0.fRaft.fHard.fLog.fBaseTerm, .slice Ap0_1 p0.fRaft.fHard.fLog.fEntries.length cp0_1, .slice Ap0_2 p0.fRaft.fVotes.length cp0_2, .slice Ap0_3 p0.fRaft.fMarks.length cp0_3] 84 (0, 0)) :: H, R, φ⟩ (fun _ h => h) <| c_seq <| c_region <| g_v rfl (r_loadA (tag := 100010) rfl rfl Try.isAgg84 Try.sizeOf84 rfl rfl) ?_
 replace hm := bnd hm
 obtain ⟨x7, hx8, hm⟩ := hm
 refine g_cn ⟨w0, M, _, _, φ⟩ (fun _ h => h) Try.call40 rfl rfl (c_raft_state_voters p0 Ap0_0 cp0_0 hcp0_0 (fun W hS => fp0_0 W hS.now) Ap0_1 cp0_1 hcp0_1 (fun W hS => fp0_1 W hS.now) Ap0_2 cp0_2 hcp0_2 (fun W hS => fp0_2 W hS.now) Ap0_3 cp0_3 hcp0_3 (fun W hS => fp0_3 W hS.now) _ hx8) (fun ⟨A9, c10⟩ hc10 => ?_)
 refine g_sta _ (fun W h => (ok_frontR (t := 2000) (t' := 100160) h rfl)) <| g_v rfl r_assign <| g_nil <| d_then <| c_seq <| c_region <| g_v rfl (r_mkf rfl) <| g_v rfl r_assign <| g_nil <| d_then ?_
 refine c_seq ?_
 refine c_cut (ι := Int) [1, 2] (fun i44 => []) (fun i44 => ⟨w0, M, (100020, g2, .cells #[.int .i64 0, .int .i64 0, .int .i64 0, .int .i64 0, .int .i64 0, .int .i64 0, .int .i64 0, .slice none 0 0, .string (⟨#[]⟩ : ByteArray), .int .i64 0, .int .i64 0, .slice none 0 0, .slice none 0 0, .slice none 0 0] 84 (0, 0)) :: (100010, g1, .cells #[.int .i64 p0.fRaft.fMe, .int .i64 p0.fRaft.fRole, .int .i64 p0.fRaft.fLeader, .int .i64 i44, .int .i64 p0.fRaft.fLeft, .int .i64 p0.fRaft.fHard.fTerm, .int .i64 p0.fRaft.fHard.fVote, .slice Ap0_0 p0.fRaft.fHard.fVoters.length cp0_0, .string p0.fRaft.fHard.fSnap, .int .i64 p0.fRaft.fHard.fLog.fBase, .int .i64 p0.fRaft.fHard.fLog.fBaseTerm, .slice Ap0_1 p0.fRaft.fHard.fLog.fEntries.length cp0_1, .slice Ap0_2 p0.fRaft.fVotes.length cp0_2, .slice Ap0_3 p0.fRaft.fMarks.length cp0_3] 84 (0, 0)) :: H, R, φ⟩) (fun i44 => m_raft_state_commit_j1 p0 i44 = some r) ?_ (fun i44 u hm => ?_)
 ·
  refine c_seq <| c_region <| g_v rfl r_move <| g_v rfl r_assign <| g_nil <| d_then <| c_block ?_
  replace hm := bnd hm
  obtain ⟨out2, hl2, hr2⟩ := hm
  obtain ⟨n76', hl2⟩ := loop_lp hl2
  refine c_loopU (ι := Nat × Int) [1, 2, 5, 6, 7] (fun ⟨n76, i60⟩ => [(7, .int .i64 i60)]) (fun ⟨n76, i60⟩ => ⟨w0, M, (100020, g2, .cells #[.int .i64 0, .int .i64 0, .int .i64 0, .int .i64 0, .int .i64 0, .int .i64 0, .int .i64 0, .slice none 0 0, .string (⟨#[]⟩ : ByteArray), .int .i64 0, .int .i64 0, .slice none 0 0, .slice none 0 0, .slice none 0 0] 84 (0, 0)) :: (100010, g1, .cells #[.int .i64 p0.fRaft.fMe, .int .i64 p0.fRaft.fRole, .int .i64 p0.fRaft.fLeader, .int .i64 p0.fRaft.fCommit, .int .i64 p0.fRaft.fLeft, .int .i64 p0.fRaft.fHard.fTerm, .int .i64 p0.fRaft.fHard.fVote, .slice Ap0_0 p0.fRaft.fHard.fVoters.length cp0_0, .string p0.fRaft.fHard.fSnap, .int .i64 p0.fRaft.fHard.fLog.fBase, .int .i64 p0.fRaft.fHard.fLog.fBaseTerm, .slice Ap0_1 p0.fRaft.fHard.fLog.fEntries.length cp0_1, .slice Ap0_2 p0.fRaft.fVotes.length cp0_2, .slice Ap0_3 p0.fRaft.fMarks.length cp0_3] 84 (0, 0)) :: H, (100160, ⟨.slice A9 x7.length c10, 3, 1, x7.length, x7.flatMap (fun x : Int => [Value.int .i64 x])⟩) :: R, φ⟩) (fun ⟨n76, i60⟩ => Lp (fun s => m_raft_state_commit_s2 p0 x7 s) n76 i60 out2) (fun ⟨n76, i60⟩ => n76) (n76', x3) hl2 ⟨rfl, rfl, rfl, rfl, rfl, trivial⟩ (fun W h => h.phi (fun W hφ => hφ)) (fun ⟨n76, i60⟩ u hlp => ?_)
  obtain ⟨o2, hm, hnx2⟩ := lp_step hlp
  clear hlp
  replace hm : m_raft_state_commit_s2 p0 x7 i60 = some o2 := hm
  unfold m_raft_state_commit_s2 at hm
  refine c_flat [(1, .pointer (some ⟨g1, 0, none⟩)), (2, .pointer (some ⟨g2, 0, none⟩)), (5, .slice A9 x7.length c10), (6, .func (.func 73) #[] #[.pointer (some ⟨g1, 0, none⟩)]), (7, .int .i64 i60)] ⟨rfl, rfl, rfl, rfl, rfl, trivial⟩ (fun u => ?_)
  refine c_sta ⟨w0, M, (100020, g2, .cells #[.int .i64 0, .int .i64 0, .int .i64 0, .int .i64 0, .int .i64 0, .int .i64 0, .int .i64 0, .slice none 0 0, .string (⟨#[]⟩ : ByteArray), .int .i64 0, .int .i64 0, .slice none 0 0, .slice none 0 0, .slice none 0 0] 84 (0, 0)) :: (100010, g1, .cells #[.int .i64 p0.fRaft.fMe, .int .i64 p0.fRaft.fRole, .int .i64 p0.fRaft.fLeader, .int .i64 p0.fRaft.fCommit, .int .i64 p0.fRaft.fLeft, .int .i64 p0.fRaft.fHard.fTerm, .int .i64 p0.fRaft.fHard.fVote, .slice Ap0_0 p0.fRaft.fHard.fVoters.length cp0_0, .string p0.fRaft.fHard.fSnap, .int .i64 p0.fRaft.fHard.fLog.fBase, .int .i64 p0.fRaft.fHard.fLog.fBaseTerm, .slice Ap0_1 p0.fRaft.fHard.fLog.fEntries.length cp0_1, .slice Ap0_2 p0.fRaft.fVotes.length cp0_2, .slice Ap0_3 p0.fRaft.fMarks.length cp0_3] 84 (0, 0)) :: H, (100160, ⟨.slice A9 x7.length c10, 3, 1, x7.length, x7.flatMap (fun x : Int => [Value.int .i64 x])⟩) :: R, φ⟩ (fun _ h => h) <| c_seq <| c_seq <| c_region <| g_v rfl r_move <| g_v rfl (r_field (n := 0) Try.underlying84 rfl Try.sizeOf43 rfl rfl) <| g_v rfl (r_field (n := 3) Try.underlying43 rfl Try.sizeOf3 rfl rfl) <| g_v rfl (r_load (tag := 100010) rfl rfl rfl Try.isAgg3) <| g_v rfl (r_gtr rfl rfl) <| g_nil ?_
  refine d_then ?_
  refine c_cond rfl (fun h77 => ?_) (fun h77 => ?_)
  ·
   replace hm := ite_t hm (of_decide_eq_true h77)
   refine c_skip <| d_then <| c_seq <| c_block <| c_seq <| c_region <| g_v rfl (r_field (n := 0) Try.underlying84 rfl Try.sizeOf43 rfl rfl) <| g_v rfl (r_field (n := 5) Try.underlying43 rfl Try.sizeOf40 rfl rfl) <| g_v rfl (r_field (n := 9) Try.underlying40 rfl Try.sizeOf38 rfl rfl) <| g_v rfl (r_loadA (tag := 100010) rfl rfl Try.isAgg38 Try.sizeOf38 rfl rfl) ?_
   refine g_v rfl r_move ?_
   replace hm := bnd hm
   obtain ⟨⟨x78, x79⟩, hx80, hm⟩ := hm
   refine g_cn ⟨w0, M, _, _, φ⟩ (fun _ h => h) Try.call67 rfl rfl (c_plog_Term p0.fRaft.fHard.fLog Ap0_1 cp0_1 hcp0_1 (fun W hS => fp0_1 W hS.now) i60 _ hx80) (fun _ _ => ?_)
   refine g_v rfl r_move <| g_v rfl (r_extract rfl rfl) <| g_v rfl (r_extract rfl rfl) <| g_v rfl r_assign <| g_v rfl r_assign <| g_nil <| d_then ?_
   refine c_flat [(1, .pointer (some ⟨g1, 0, none⟩)), (2, .pointer (some ⟨g2, 0, none⟩)), (5, .slice A9 x7.length c10), (6, .func (.func 73) #[] #[.pointer (some ⟨g1, 0, none⟩)]), (7, .int .i64 i60), (8, .int .i64 x78)] ⟨rfl, rfl, rfl, rfl, rfl, rfl, trivial⟩ (fun u => ?_)
   refine c_seq <| c_region <| g_v rfl r_move <| g_v rfl (r_field (n := 0) Try.underlying84 rfl Try.sizeOf43 rfl rfl) <| g_v rfl (r_field (n := 5) Try.underlying43 rfl Try.sizeOf40 rfl rfl) <| g_v rfl (r_field (n := 5) Try.underlying40 rfl Try.sizeOf3 rfl rfl) <| g_v rfl (r_load (tag := 100010) rfl rfl rfl Try.isAgg3) <| g_v rfl (r_eql rfl rfl) <| g_v rfl r_move ?_
   refine g_if rfl rfl rfl rfl rfl (fun h82 => ?_) (fun h82 => ?_)
   ·
    replace hm := ite_t hm (of_decide_eq_true h82)
    refine g_v rfl r_move <| g_do rfl rfl rfl rfl rfl h82 <| g_v rfl r_move <| g_do rfl rfl rfl rfl rfl h82 <| g_v rfl r_move <| g_do rfl rfl rfl rfl rfl h82 ?_
    replace hm := bnd hm
    obtain ⟨x83, hx84, hm⟩ := hm
    refine g_cnv ⟨w0, M, (1000, g1, .cells #[.int .i64 p0.fRaft.fMe, .int .i64 p0.fRaft.fRole, .int .i64 p0.fRaft.fLeader, .int .i64 p0.fRaft.fCommit, .int .i64 p0.fRaft.fLeft, .int .i64 p0.fRaft.fHard.fTerm, .int .i64 p0.fRaft.fHard.fVote, .slice Ap0_0 p0.fRaft.fHard.fVoters.length cp0_0, .string p0.fRaft.fHard.fSnap, .int .i64 p0.fRaft.fHard.fLog.fBase, .int .i64 p0.fRaft.fHard.fLog.fBaseTerm, .slice Ap0_1 p0.fRaft.fHard.fLog.fEntries.length cp0_1, .slice Ap0_2 p0.fRaft.fVotes.length cp0_2, .slice Ap0_3 p0.fRaft.fMarks.length cp0_3] 84 (0, 0)) :: (100020, g2, .cells #[.int .i64 0, .int .i64 0, .int .i64 0, .int .i64 0, .int .i64 0, .int .i64 0, .int .i64 0, .slice none 0 0, .string (⟨#[]⟩ : ByteArray), .int .i64 0, .int .i64 0, .slice none 0 0, .slice none 0 0, .slice none 0 0] 84 (0, 0)) :: H, (100160, ⟨.slice A9 x7.length c10, 3, 1, x7.length, x7.flatMap (fun x : Int => [Value.int .i64 x])⟩) :: R, φ⟩ (fun W h => (ok_front (t := 100010) (t' := 1000) h rfl)) Try.call73 rfl rfl rfl (c_raft_state_commit_c1 i60 g1 p0 Ap0_0 cp0_0 hcp0_0 (fun W h => fp0_0 W h) Ap0_1 cp0_1 hcp0_1 (fun W h => fp0_1 W h) Ap0_2 cp0_2 hcp0_2 (fun W h => fp0_2 W h) Ap0_3 cp0_3 hcp0_3 (fun W h => fp0_3 W h) _ hx84) (fun ⟨A85, c86⟩ hc86 => ?_)
    refine g_sta _ (fun W h => (ok_frontR (t := 2000) (t' := 100450) (ok_front (t := 1000) (t' := 100010) h rfl) rfl)) <| g_do rfl rfl rfl rfl rfl h82 ?_
    replace hm := bnd hm
    obtain ⟨x88, hx89, hm⟩ := hm
    refine g_cn ⟨w0, M, _, _, φ⟩ (fun _ h => h) Try.call13 rfl rfl (c_raft_Majority x7 A9 c10 hc10 (fun W hS => rowCl (tag := 100160) rfl W hS) x83 A85 c86 hc86 (fun W hS => rowCl (tag := 100450) rfl W hS) _ hx89) (fun _ _ => ?_)
    refine g_v rfl (r_pick1 rfl h82) <| g_nil <| d_then ?_
    refine c_flat [(1, .pointer (some ⟨g1, 0, none⟩)), (2, .pointer (some ⟨g2, 0, none⟩)), (5, .slice A9 x7.length c10), (6, .func (.func 73) #[] #[.pointer (some ⟨g1, 0, none⟩)]), (7, .int .i64 i60), (47, .bool x88)] ⟨rfl, rfl, rfl, rfl, rfl, rfl, trivial⟩ (fun u => ?_)
    refine c_sta ⟨w0, M, (100010, g1, .cells #[.int .i64 p0.fRaft.fMe, .int .i64 p0.fRaft.fRole, .int .i64 p0.fRaft.fLeader, .int .i64 p0.fRaft.fCommit, .int .i64 p0.fRaft.fLeft, .int .i64 p0.fRaft.fHard.fTerm, .int .i64 p0.fRaft.fHard.fVote, .slice Ap0_0 p0.fRaft.fHard.fVoters.length cp0_0, .string p0.fRaft.fHard.fSnap, .int .i64 p0.fRaft.fHard.fLog.fBase, .int .i64 p0.fRaft.fHard.fLog.fBaseTerm, .slice Ap0_1 p0.fRaft.fHard.fLog.fEntries.length cp0_1, .slice Ap0_2 p0.fRaft.fVotes.length cp0_2, .slice Ap0_3 p0.fRaft.fMarks.length cp0_3] 84 (0, 0)) :: (100020, g2, .cells #[.int .i64 0, .int .i64 0, .int .i64 0, .int .i64 0, .int .i64 0, .int .i64 0, .int .i64 0, .slice none 0 0, .string (⟨#[]⟩ : ByteArray), .int .i64 0, .int .i64 0, .slice none 0 0, .slice none 0 0, .slice none 0 0] 84 (0, 0)) :: H, (100450, ⟨.slice A85 x83.length c86, 3, 1, x83.length, x83.flatMap (fun x : Int => [Value.int .i64 x])⟩) :: (100160, ⟨.slice A9 x7.length c10, 3, 1, x7.length, x7.flatMap (fun x : Int => [Value.int .i64 x])⟩) :: R, φ⟩ (fun _ h => h) ?_
    refine c_cond rfl (fun h90 => ?_) (fun h90 => ?_)
    ·
     replace hm := ite_t hm h90
     refine c_seq <| c_region <| g_v rfl r_move <| g_v rfl (r_field (n := 0) Try.underlying84 rfl Try.sizeOf43 rfl rfl) <| g_v rfl (r_field (n := 3) Try.underlying43 rfl Try.sizeOf3 rfl rfl) <| g_storeL (tag := 100010) rfl rfl rfl rfl Try.sizeOf3 rfl rfl <| g_nil <| d_then <| c_exit <| d_exit_other rfl ?_
     refine d_exit_then <| d_exit_then <| d_exit_block ?_
     replace hm := nx_out (C := (fun e : Int => m_raft_state_commit_j1 p0 e = some r)) hm hnx2 hr2
     exact d_round i60 hm Nat.zero_lt_one ⟨rfl, rfl, trivial⟩ (fun W h => (ok_front (t := 100020) (t' := 100020) (ok_front (t := 100010) (t' := 100010) ((h.dropR (t := 100450) rfl).dropR (t := 100160) rfl) rfl) rfl).phi (fun W hφ => hφ))
    replace hm := ite_f hm (bool_nt h90)
    refine c_skip <| d_normal_block <| d_then <| c_region <| g_v rfl r_move <| g_v rfl (r_sub rfl rfl rfl) <| g_v rfl r_assign <| g_nil ?_
    obtain ⟨n91, hn91, hlp⟩ := nx_inl hm hnx2
    exact d_round (n91, w64 (i60 - 1)) hlp hn91 ⟨rfl, rfl, rfl, rfl, rfl, trivial⟩ (fun W h => (ok_front (t := 100020) (t' := 100020) (ok_front (t := 100010) (t' := 100010) (h.dropR (t := 100450) rfl) rfl) rfl).phi (fun W hφ => hφ))
   replace hm := ite_f hm (of_decide_eq_false h82)
   iterate 4 refine g_no rfl rfl rfl rfl rfl h82 ?_
   refine g_v rfl (r_pick0 rfl h82) <| g_nil <| d_then <| c_cond0 rfl rfl <| c_skip <| d_normal_block <| d_then <| c_region <| g_v rfl r_move <| g_v rfl (r_sub rfl rfl rfl) ?_
   refine g_v rfl r_assign <| g_nil ?_
   obtain ⟨n92, hn92, hlp⟩ := nx_inl hm hnx2
   exact d_round (n92, w64 (i60 - 1)) hlp hn92 ⟨rfl, rfl, rfl, rfl, rfl, trivial⟩ (fun W h => h.phi (fun W hφ => hφ))
  replace hm := ite_f hm (of_decide_eq_false h77)
  refine c_exit <| d_exit_then <| d_exit_then <| d_exit_block ?_
  replace hm := nx_out (C := (fun e : Int => m_raft_state_commit_j1 p0 e = some r)) hm hnx2 hr2
  exact d_round p0.fRaft.fCommit hm Nat.zero_lt_one ⟨rfl, rfl, trivial⟩ (fun W h => (h.dropR (t := 100160) rfl).phi (fun W hφ => hφ))
 unfold m_raft_state_commit_j1 at hm
 refine d_flat [(1, .pointer (some ⟨g1, 0, none⟩)), (2, .pointer (some ⟨g2, 0, none⟩))] ⟨rfl, rfl, trivial⟩ (fun u => ?_)
 refine d_sta ⟨w0, M, (100020, g2, .cells #[.int .i64 0, .int .i64 0, .int .i64 0, .int .i64 0, .int .i64 0, .int .i64 0, .int .i64 0, .slice none 0 0, .string (⟨#[]⟩ : ByteArray), .int .i64 0, .int .i64 0, .slice none 0 0, .slice none 0 0, .slice none 0 0] 84 (0, 0)) :: (100010, g1, .cells #[.int .i64 p0.fRaft.fMe, .int .i64 p0.fRaft.fRole, .int .i64 p0.fRaft.fLeader, .int .i64 i44, .int .i64 p0.fRaft.fLeft, .int .i64 p0.fRaft.fHard.fTerm, .int .i64 p0.fRaft.fHard.fVote, .slice Ap0_0 p0.fRaft.fHard.fVoters.length cp0_0, .string p0.fRaft.fHard.fSnap, .int .i64 p0.fRaft.fHard.fLog.fBase, .int .i64 p0.fRaft.fHard.fLog.fBaseTerm, .slice Ap0_1 p0.fRaft.fHard.fLog.fEntries.length cp0_1, .slice Ap0_2 p0.fRaft.fVotes.length cp0_2, .slice Ap0_3 p0.fRaft.fMarks.length cp0_3] 84 (0, 0)) :: H, R, φ⟩ (fun _ h => h) <| d_then <| c_seq <| c_region <| g_v rfl (r_loadA (tag := 100010) rfl rfl Try.isAgg84 Try.sizeOf84 rfl rfl) <| g_storeL (tag := 100020) rfl rfl rfl rfl Try.sizeOf84 rfl rfl <| g_nil <| d_then <| c_ret ?_
 cases hm
 exact d_retC (Ap0_0, cp0_0, Ap0_1, cp0_1, Ap0_2, cp0_2, Ap0_3, cp0_3) Try.results46 (res_agg (tag := 100020) rfl rfl Try.isAgg84 Try.sizeOf84 (res_nil rfl)) ⟨hcp0_0, hcp0_1, hcp0_2, hcp0_3⟩ (fun W h => ok_pre (H1 := [_, _]) (R1 := []) h (fun W hφ => ⟨hφ, (fun W h => fp0_0 W h) W hφ, (fun W h => fp0_1 W h) W hφ, (fun W h => fp0_2 W h) W hφ, (fun W h => fp0_3 W h) W hφ⟩)) (.inr rfl)
noncomputable def m_raft_state_leads (p0 : Graft_state) : Option (Graft_state × (List GNote)) :=
  (m_plog_Add p0.fRaft.fHard.fLog ([(⟨p0.fRaft.fHard.fTerm, 2, (⟨#[]⟩ : ByteArray)⟩ : GEntry)])).bind fun x6 =>
  (m_raft_state_last (⟨(⟨p0.fRaft.fMe, 2, w64 (p0.fRaft.fMe + 1), p0.fRaft.fCommit, p0.fRaft.fLeft, (⟨p0.fRaft.fHard.fTerm, p0.fRaft.fHard.fVote, p0.fRaft.fHard.fVoters, p0.fRaft.fHard.fSnap, x6⟩ : GHard), ([] : List Int), ([] : List GMark)⟩ : GRaft)⟩ : Graft_state)).bind fun (z15 : Int × Int) =>
  (m_raft_state_marks (⟨(⟨p0.fRaft.fMe, 2, w64 (p0.fRaft.fMe + 1), p0.fRaft.fCommit, p0.fRaft.fLeft, (⟨p0.fRaft.fHard.fTerm, p0.fRaft.fHard.fVote, p0.fRaft.fHard.fVoters, p0.fRaft.fHard.fSnap, x6⟩ : GHard), ([] : List Int), ([] : List GMark)⟩ : GRaft)⟩ : Graft_state) z15.1).bind fun x16 =>
  (m_raft_state_commit (⟨(⟨p0.fRaft.fMe, 2, w64 (p0.fRaft.fMe + 1), p0.fRaft.fCommit, p0.fRaft.fLeft, (⟨p0.fRaft.fHard.fTerm, p0.fRaft.fHard.fVote, p0.fRaft.fHard.fVoters, p0.fRaft.fHard.fSnap, x6⟩ : GHard), ([] : List Int), x16⟩ : GRaft)⟩ : Graft_state)).bind fun x23 =>
  (m_raft_state_all x23).bind fun x54 =>
  some (x23, x54)
theorem c_raft_state_leads {w0 : World} {M : Nat → Prop} {H : List (Nat × Nat × Obj)} {R : List (Nat × Row)} {φ : World → Prop} (p0 : Graft_state) (Ap0_0 : Option Addr) (cp0_0 : Nat) (hcp0_0 : p0.fRaft.fHard.fVoters.length ≤ cp0_0) (fp0_0 : ∀ W, φ W → Cl W Ap0_0 (p0.fRaft.fHard.fVoters.flatMap (fun x : Int => [Value.int .i64 x]))) (Ap0_1 : Option Addr) (cp0_1 : Nat) (hcp0_1 : p0.fRaft.fHard.fLog.fEntries.length ≤ cp0_1) (fp0_1 : ∀ W, φ W → Cl W Ap0_1 (p0.fRaft.fHard.fLog.fEntries.flatMap GEntry.enc)) (Ap0_2 : Option Addr) (cp0_2 : Nat) (hcp0_2 : p0.fRaft.fVotes.length ≤ cp0_2) (fp0_2 : ∀ W, (Sta.mk w0 M H R φ).ok W → Cl W Ap0_2 (p0.fRaft.fVotes.flatMap (fun x : Int => [Value.int .i64 x]))) (Ap0_3 : Option Addr) (cp0_3 : Nat) (hcp0_3 : p0.fRaft.fMarks.length ≤ cp0_3) (fp0_3 : ∀ W, (Sta.mk w0 M H R φ).ok W → Cl W Ap0_3 (p0.fRaft.fMarks.flatMap GMark.enc)) (r : Graft_state × (List GNote)) (hm : m_raft_state_leads p0 = some r) :
    Cn Try.prog 64 #[.agg #[.int .i64 p0.fRaft.fMe, .int .i64 p0.fRaft.fRole, .int .i64 p0.fRaft.fLeader, .int .i64 p0.fRaft.fCommit, .int .i64 p0.fRaft.fLeft, .int .i64 p0.fRaft.fHard.fTerm, .int .i64 p0.fRaft.fHard.fVote, .slice Ap0_0 p0.fRaft.fHard.fVoters.length cp0_0, .string p0.fRaft.fHard.fSnap, .int .i64 p0.fRaft.fHard.fLog.fBase, .int .i64 p0.fRaft.fHard.fLog.fBaseTerm, .slice Ap0_1 p0.fRaft.fHard.fLog.fEntries.length cp0_1, .slice Ap0_2 p0.fRaft.fVotes.length cp0_2, .slice Ap0_3 p0.fRaft.fMarks.length cp0_3]] ⟨w0, M, H, R, φ⟩ (fun x : Option Addr × Nat × Option Addr × Nat × Option Addr × Nat × Option Addr × Nat × Option Addr × Nat × List GNoteP => .tuple #[.agg #[.int .i64 r.1.fRaft.fMe, .int .i64 r.1.fRaft.fRole, .int .i64 r.1.fRaft.fLeader, .int .i64 r.1.fRaft.fCommit, .int .i64 r.1.fRaft.fLeft, .int .i64 r.1.fRaft.fHard.fTerm, .int .i64 r.1.fRaft.fHard.fVote, .slice x.1 r.1.fRaft.fHard.fVoters.length x.2.1, .string r.1.fRaft.fHard.fSnap, .int .i64 r.1.fRaft.fHard.fLog.fBase, .int .i64 r.1.fRaft.fHard.fLog.fBaseTerm, .slice x.2.2.1 r.1.fRaft.fHard.fLog.fEntries.length x.2.2.2.1, .slice x.2.2.2.2.1 r.1.fRaft.fVotes.length x.2.2.2.2.2.1, .slice x.2.2.2.2.2.2.1 r.1.fRaft.fMarks.length x.2.2.2.2.2.2.2.1], .slice x.2.2.2.2.2.2.2.2.1 r.2.length x.2.2.2.2.2.2.2.2.2.1]) (fun x => r.1.fRaft.fHard.fVoters.length ≤ x.2.1 ∧ r.1.fRaft.fHard.fLog.fEntries.length ≤ x.2.2.2.1 ∧ r.1.fRaft.fVotes.length ≤ x.2.2.2.2.2.1 ∧ r.1.fRaft.fMarks.length ≤ x.2.2.2.2.2.2.2.1 ∧ (DOk GNote.capP r.2 x.2.2.2.2.2.2.2.2.2.2 ∧ r.2.length ≤ x.2.2.2.2.2.2.2.2.2.1)) (fun x => ⟨w0, M, H, (2004, ⟨.slice x.2.2.2.2.2.2.2.2.1 r.2.length x.2.2.2.2.2.2.2.2.2.1, 25, 11, r.2.length, (r.2.zip x.2.2.2.2.2.2.2.2.2.2).flatMap GNote.encP⟩) :: R, fun W => φ W ∧ Cl W x.1 (r.1.fRaft.fHard.fVoters.flatMap (fun x : Int => [Value.int .i64 x])) ∧ Cl W x.2.2.1 (r.1.fRaft.fHard.fLog.fEntries.flatMap GEntry.enc) ∧ Cl W x.2.2.2.2.1 (r.1.fRaft.fVotes.flatMap (fun x : Int => [Value.int .i64 x])) ∧ Cl W x.2.2.2.2.2.2.1 (r.1.fRaft.fMarks.flatMap GMark.enc) ∧ DOwn GNote.ownP r.2 x.2.2.2.2.2.2.2.2.2.2 W⟩) := by
 unfold m_raft_state_leads at hm
 refine cn_intro (fn := Try.f64) (N := 47) Try.func64 rfl Try.ntmps64 rfl <| c_seq <| c_region ?_
 refine g_e rfl (e_box 100010 rfl) (fun g1 _ => ?_)
 refine g_e rfl (e_alloc 100020 Try.zeroValue84) (fun g2 _ => ?_)
 refine g_v rfl r_assign <| g_nil <| d_then <| c_seq <| c_region <| g_v rfl (r_field (n := 0) Try.underlying84 rfl Try.sizeOf43 rfl rfl) <| g_v rfl (r_field (n := 0) Try.underlying43 rfl Try.sizeOf3 rfl rfl) <| g_v rfl (r_load (tag := 100010) rfl rfl rfl Try.isAgg3) <| g_v rfl (r_add rfl rfl rfl) <| g_v rfl (r_field (n := 0) Try.underlying84 rfl Try.sizeOf43 rfl rfl) ?_
 refine g_v rfl (r_field (n := 1) Try.underlying43 rfl Try.sizeOf3 rfl rfl) <| g_storeL (tag := 100010) rfl rfl rfl rfl Try.sizeOf3 rfl rfl <| g_v rfl (r_field (n := 0) Try.underlying84 rfl Try.sizeOf43 rfl rfl) <| g_v rfl (r_field (n := 2) Try.underlying43 rfl Try.sizeOf3 rfl rfl) <| g_storeL (tag := 100010) rfl rfl rfl rfl Try.sizeOf3 rfl rfl <| g_v rfl (r_field (n := 0) Try.underlying84 rfl Try.sizeOf43 rfl rfl) <| g_v rfl (r_field (n := 12) Try.underlying43 rfl Try.sizeOf23 rfl rfl) <| g_storeL (tag := 100010) rfl rfl rfl rfl Try.sizeOf23 rfl rfl <| g_v rfl (r_field (n := 0) Try.underlying84 rfl Try.sizeOf43 rfl rfl) <| g_v rfl (r_field (n := 13) Try.underlying43 rfl Try.sizeOf41 rfl rfl) ?_
 refine g_storeL (tag := 100010) rfl rfl rfl rfl Try.sizeOf41 rfl rfl <| g_nil <| d_then ?_
 refine c_flat [(1, .pointer (some ⟨g1, 0, none⟩)), (2, .pointer (some ⟨g2, 0, none⟩))] ⟨rfl, rfl, trivial⟩ (fun u => ?_)
 refine c_sta ⟨w0, M, (100020, g2, .cells #[.int .i64 0, .int .i64 0, .int .i64 0, .int .i64 0, .int .i64 0, .int .i64 0, .int .i64 0, .slice none 0 0, .string (⟨#[]⟩ : ByteArray), .int .i64 0, .int .i64 0, .slice none 0 0, .slice none 0 0, .slice none 0 0] 84 (0, 0)) :: (100010, g1, .cells #[.int .i64 p0.fRaft.fMe, .int .i64 2, .int .i64 (w64 (p0.fRaft.fMe + 1)), .int .i64 p0.fRaft.fCommit, .int .i64 p0.fRaft.fLeft, .int .i64 p0.fRaft.fHard.fTerm, .int .i64 p0.fRaft.fHard.fVote, .slice Ap0_0 p0.fRaft.fHard.fVoters.length cp0_0, .string p0.fRaft.fHard.fSnap, .int .i64 p0.fRaft.fHard.fLog.fBase, .int .i64 p0.fRaft.fHard.fLog.fBaseTerm, .slice Ap0_1 p0.fRaft.fHard.fLog.fEntries.length cp0_1, .slice none 0 0, .slice none 0 0] 84 (0, 0)) :: H, R, φ⟩ (fun _ h => h) <| c_seq <| c_region <| g_v rfl (r_field (n := 0) Try.underlying84 rfl Try.sizeOf43 rfl rfl) <| g_v rfl (r_field (n := 5) Try.underlying43 rfl Try.sizeOf40 rfl rfl) <| g_v rfl (r_field (n := 9) Try.underlying40 rfl Try.sizeOf38 rfl rfl) <| g_v rfl (r_loadA (tag := 100010) rfl rfl Try.isAgg38 Try.sizeOf38 rfl rfl) <| g_v rfl (r_field (n := 0) Try.underlying84 rfl Try.sizeOf43 rfl rfl) <| g_v rfl (r_field (n := 5) Try.underlying43 rfl Try.sizeOf40 rfl rfl) <| g_v rfl (r_field (n := 5) Try.underlying40 rfl Try.sizeOf3 rfl rfl) ?_
 refine g_v rfl (r_load (tag := 100010) rfl rfl rfl Try.isAgg3) <| g_v rfl (r_build _ rfl (bld36_12 _ _)) ?_
 refine g_e rfl (e_lit (tag := 100270) (l := [(⟨p0.fRaft.fHard.fTerm, 2, (⟨#[]⟩ : ByteArray)⟩ : GEntry)]) (enc := GEntry.enc) (sz := 3) rfl Try.underlying22 (lit36_13 _ _ _) rfl rfl (fun _ => rfl)) (fun g3 _ => ?_)
 refine g_shut (tag := 100270) rfl (fun φ4 q4' => ?_)
 have q4 : ∀ W, φ4 W → φ W := fun W h => (q4' W h).1
 have f5 := fun (W : World) (h : φ4 W) => (q4' W h).2
 replace hm := bnd hm
 obtain ⟨x6, hx7, hm⟩ := hm
 refine g_cn ⟨w0, M, _, _, φ4⟩ (fun _ h => h) Try.call44 rfl rfl (c_plog_Add p0.fRaft.fHard.fLog Ap0_1 cp0_1 hcp0_1 (fun W h => fp0_1 W (q4 _ h)) ([(⟨p0.fRaft.fHard.fTerm, 2, (⟨#[]⟩ : ByteArray)⟩ : GEntry)]) (some ⟨g3, 0, none⟩) 1 (Nat.le_refl _) (fun W h => f5 W h) _ hx7) (fun ⟨A8, c9⟩ hc9 => ?_)
 refine g_abs (fun φ11 q11' => ?_)
 have q11 : ∀ W, φ11 W → φ4 W := fun W h => (q11' W h).1
 have f10 := fun (W : World) (h : φ11 W) => (q11' W h).2
 refine g_v rfl (r_field (n := 0) Try.underlying84 rfl Try.sizeOf43 rfl rfl) <| g_v rfl (r_field (n := 5) Try.underlying43 rfl Try.sizeOf40 rfl rfl) <| g_v rfl (r_field (n := 9) Try.underlying40 rfl Try.sizeOf38 rfl rfl) <| g_storeL (tag := 100010) rfl rfl rfl rfl Try.sizeOf38 rfl rfl <| g_nil <| d_then ?_
 refine c_flat [(1, .pointer (some ⟨g1, 0, none⟩)), (2, .pointer (some ⟨g2, 0, none⟩))] ⟨rfl, rfl, trivial⟩ (fun u => ?_)
 refine c_sta ⟨w0, M, (100020, g2, .cells #[.int .i64 0, .int .i64 0, .int .i64 0, .int .i64 0, .int .i64 0, .int .i64 0, .int .i64 0, .slice none 0 0, .string (⟨#[]⟩ : ByteArray), .int .i64 0, .int .i64 0, .slice none 0 0, .slice none 0 0, .slice none 0 0] 84 (0, 0)) :: (100010, g1, .cells #[.int .i64 p0.fRaft.fMe, .int .i64 2, .int .i64 (w64 (p0.fRaft.fMe + 1)), .int .i64 p0.fRaft.fCommit, .int .i64 p0.fRaft.fLeft, .int .i64 p0.fRaft.fHard.fTerm, .int .i64 p0.fRaft.fHard.fVote, .slice Ap0_0 p0.fRaft.fHard.fVoters.length cp0_0, .string p0.fRaft.fHard.fSnap, .int .i64 x6.fBase, .int .i64 x6.fBaseTerm, .slice A8 x6.fEntries.length c9, .slice none 0 0, .slice none 0 0] 84 (0, 0)) :: H, R, φ11⟩ (fun _ h => h) <| c_seq <| c_region <| g_v rfl (r_loadA (tag := 100010) rfl rfl Try.isAgg84 Try.sizeOf84 rfl rfl) ?_
 replace hm := bnd hm
 obtain ⟨⟨x12, x13⟩, hx14, hm⟩ := hm
 refine g_cn ⟨w0, M, _, _, φ11⟩ (fun _ h => h) Try.call42 rfl rfl (c_raft_state_last (⟨(⟨p0.fRaft.fMe, 2, w64 (p0.fRaft.fMe + 1), p0.fRaft.fCommit, p0.fRaft.fLeft, (⟨p0.fRaft.fHard.fTerm, p0.fRaft.fHard.fVote, p0.fRaft.fHard.fVoters, p0.fRaft.fHard.fSnap, x6⟩ : GHard), ([] : List Int), ([] : List GMark)⟩ : GRaft)⟩ : Graft_state) Ap0_0 cp0_0 hcp0_0 (fun W hS => fp0_0 W (q4 _ (q11 _ hS.now))) A8 c9 hc9 (fun W hS => f10 W hS.now) none 0 (Nat.le_refl 0) (fun W _ => Cl.nil _ _) none 0 (Nat.le_refl 0) (fun W _ => Cl.nil _ _) _ hx14) (fun _ _ => ?_)
 refine g_v rfl r_move <| g_v rfl (r_extract rfl rfl) <| g_v rfl (r_extract rfl rfl) <| g_v rfl r_assign <| g_v rfl r_assign <| g_nil <| d_then <| c_seq <| c_region <| g_v rfl (r_loadA (tag := 100010) rfl rfl Try.isAgg84 Try.sizeOf84 rfl rfl) ?_
 refine g_v rfl r_move ?_
 replace hm := bnd hm
 obtain ⟨x16, hx17, hm⟩ := hm
 refine g_cn ⟨w0, M, _, _, φ11⟩ (fun _ h => h) Try.call45 rfl rfl (c_raft_state_marks (⟨(⟨p0.fRaft.fMe, 2, w64 (p0.fRaft.fMe + 1), p0.fRaft.fCommit, p0.fRaft.fLeft, (⟨p0.fRaft.fHard.fTerm, p0.fRaft.fHard.fVote, p0.fRaft.fHard.fVoters, p0.fRaft.fHard.fSnap, x6⟩ : GHard), ([] : List Int), ([] : List GMark)⟩ : GRaft)⟩ : Graft_state) Ap0_0 cp0_0 hcp0_0 (fun W h => fp0_0 W (q4 _ (q11 _ h))) A8 c9 hc9 (fun W h => f10 W h) none 0 (Nat.le_refl 0) (fun W _ => Cl.nil _ _) none 0 (Nat.le_refl 0) (fun W _ => Cl.nil _ _) x12 _ hx17) (fun ⟨A18, c19⟩ hc19 => ?_)
 refine g_sta _ (fun W h => (ok_frontR (t := 2000) (t' := 100390) h rfl)) <| g_v rfl (r_field (n := 0) Try.underlying84 rfl Try.sizeOf43 rfl rfl) <| g_v rfl (r_field (n := 13) Try.underlying43 rfl Try.sizeOf41 rfl rfl) <| g_storeL (tag := 100010) rfl rfl rfl rfl Try.sizeOf41 rfl rfl <| g_nil <| d_then ?_
 refine c_flat [(1, .pointer (some ⟨g1, 0, none⟩)), (2, .pointer (some ⟨g2, 0, none⟩))] ⟨rfl, rfl, trivial⟩ (fun u => ?_)
 refine c_sta ⟨w0, M, (100020, g2, .cells #[.int .i64 0, .int .i64 0, .int .i64 0, .int .i64 0, .int .i64 0, .int .i64 0, .int .i64 0, .slice none 0 0, .string (⟨#[]⟩ : ByteArray), .int .i64 0, .int .i64 0, .slice none 0 0, .slice none 0 0, .slice none 0 0] 84 (0, 0)) :: (100010, g1, .cells #[.int .i64 p0.fRaft.fMe, .int .i64 2, .int .i64 (w64 (p0.fRaft.fMe + 1)), .int .i64 p0.fRaft.fCommit, .int .i64 p0.fRaft.fLeft, .int .i64 p0.fRaft.fHard.fTerm, .int .i64 p0.fRaft.fHard.fVote, .slice Ap0_0 p0.fRaft.fHard.fVoters.length cp0_0, .string p0.fRaft.fHard.fSnap, .int .i64 x6.fBase, .int .i64 x6.fBaseTerm, .slice A8 x6.fEntries.length c9, .slice none 0 0, .slice A18 x16.length c19] 84 (0, 0)) :: H, (100390, ⟨.slice A18 x16.length c19, 105, 3, x16.length, x16.flatMap GMark.enc⟩) :: R, φ11⟩ (fun _ h => h) <| c_seq <| c_region <| g_v rfl (r_loadA (tag := 100010) rfl rfl Try.isAgg84 Try.sizeOf84 rfl rfl) ?_
 refine g_shut (tag := 100390) rfl (fun φ21 q21' => ?_)
 have q21 : ∀ W, φ21 W → φ11 W := fun W h => (q21' W h).1
 have f22 := fun (W : World) (h : φ21 W) => (q21' W h).2
 replace hm := bnd hm
 obtain ⟨x23, hx24, hm⟩ := hm
 refine g_cn ⟨w0, M, _, _, φ21⟩ (fun _ h => h) Try.call46 rfl rfl (c_raft_state_commit (⟨(⟨p0.fRaft.fMe, 2, w64 (p0.fRaft.fMe + 1), p0.fRaft.fCommit, p0.fRaft.fLeft, (⟨p0.fRaft.fHard.fTerm, p0.fRaft.fHard.fVote, p0.fRaft.fHard.fVoters, p0.fRaft.fHard.fSnap, x6⟩ : GHard), ([] : List Int), x16⟩ : GRaft)⟩ : Graft_state) Ap0_0 cp0_0 hcp0_0 (fun W h => fp0_0 W (q4 _ (q11 _ (q21 _ h)))) A8 c9 hc9 (fun W h => f10 W (q21 _ h)) none 0 (Nat.le_refl 0) (fun W _ => Cl.nil _ _) A18 c19 hc19 (fun W h => f22 W h) _ hx24) (fun ⟨A25, c26, A28, c29, A31, c32, A34, c35⟩ ⟨hc26, hc29, hc32, hc35⟩ => ?_)
 refine g_abs (fun φ37 q37' => ?_)
 have q37 : ∀ W, φ37 W → φ21 W := fun W h => (q37' W h).1
 have f27 := fun (W : World) (h : φ37 W) => (q37' W h).2.1
 have f30 := fun (W : World) (h : φ37 W) => (q37' W h).2.2.1
 have f33 := fun (W : World) (h : φ37 W) => (q37' W h).2.2.2.1
 have f36 := fun (W : World) (h : φ37 W) => (q37' W h).2.2.2.2
 refine g_storeL (tag := 100010) rfl rfl rfl rfl Try.sizeOf84 rfl rfl <| g_nil <| d_then <| c_seq <| ga_start (n := 5) ⟨w0, M, (100020, g2, .cells #[.int .i64 0, .int .i64 0, .int .i64 0, .int .i64 0, .int .i64 0, .int .i64 0, .int .i64 0, .slice none 0 0, .string (⟨#[]⟩ : ByteArray), .int .i64 0, .int .i64 0, .slice none 0 0, .slice none 0 0, .slice none 0 0] 84 (0, 0)) :: (100010, g1, .cells #[.int .i64 x23.fRaft.fMe, .int .i64 x23.fRaft.fRole, .int .i64 x23.fRaft.fLeader, .int .i64 x23.fRaft.fCommit, .int .i64 x23.fRaft.fLeft, .int .i64 x23.fRaft.fHard.fTerm, .int .i64 x23.fRaft.fHard.fVote, .slice A25 x23.fRaft.fHard.fVoters.length c26, .string x23.fRaft.fHard.fSnap, .int .i64 x23.fRaft.fHard.fLog.fBase, .int .i64 x23.fRaft.fHard.fLog.fBaseTerm, .slice A28 x23.fRaft.fHard.fLog.fEntries.length c29, .slice A31 x23.fRaft.fVotes.length c32, .slice A34 x23.fRaft.fMarks.length c35] 84 (0, 0)) :: H, R, φ37⟩ [3] #[false, false, false, false, false] (fun W h => h.phi (fun W hφ => hφ)) mixed rfl rfl <| ga_v (i := 0) (bz 5 1) rfl (by kernel_rfl) (fun _ _ _ _ h => h) rfl (r_loadA (tag := 100010) rfl rfl Try.isAgg84 Try.sizeOf84 rfl rfl) <| ga_r (i := 1) (bz 5 3) rfl (by kernel_rfl) (by decide) rfl (r_loadA (tag := 100010) rfl rfl Try.isAgg84 Try.sizeOf84 rfl rfl) ?_
 replace hm := bnd hm
 obtain ⟨x54, hx55, hm⟩ := hm
 refine ga_cn (first := #[]) (i := 2) (bz 5 7) rfl (by kernel_rfl) (by decide)  ⟨w0, M, _, _, φ37⟩ (fun _ h => h) Try.call39 rfl rfl rfl (c_raft_state_all x23 A25 c26 hc26 (fun W h => f27 W h) A28 c29 hc29 (fun W hS => f30 W hS.now) A31 c32 hc32 (fun W hS => f33 W hS.now) A34 c35 hc35 (fun W hS => f36 W hS.now) _ hx55) (fun ⟨A56, c57, ps59⟩ W hc57 h => (((ok_frontR (t := 2000) (t' := 100460) h rfl).phi (fun _ hh => hh.1)).dropR (t := 100460) rfl).phi (fun W hφ => hφ)) (fun ⟨A56, c57, ps59⟩ hc57 => ?_)
 refine ga_sta _ (fun W h => (ok_frontR (t := 2000) (t' := 100460) h rfl)) ?_
 refine ga_abs (fun φ61 q61' => ?_)
 have q61 : ∀ W, φ61 W → φ37 W := fun W h => (q61' W h).1
 have f60 := fun (W : World) (h : φ61 W) => (q61' W h).2
 refine ga_lastL (i := 3) (tag := 100020) (bz 5 15) rfl (by kernel_rfl) (by decide) rfl rfl rfl rfl Try.sizeOf84 rfl rfl <| gz_p (i := 4) (bz 5 31) rfl (.inr rfl) (by kernel_rfl) (fun _ _ _ _ h => h) rfl <| gz_done (by kernel_rfl) <| d_then <| c_ret ?_
 cases hm
 refine d_sta _ (fun W h => ok_frontR (t := 100460) (t' := 2004) h rfl) ?_
 exact d_retC (A25, c26, A28, c29, A31, c32, A34, c35, A56, c57, ps59) Try.results64 (res_agg (tag := 100020) rfl rfl Try.isAgg84 Try.sizeOf84 (res_tmp (res_nil rfl))) ⟨hc26, hc29, hc32, hc35, ⟨hc57.1, hc57.2⟩⟩ (fun W h => ((h.dropH (t := 100020) rfl).dropH (t := 100010) rfl).phi (fun W hφ => ⟨(q4 _ (q11 _ (q21 _ (q37 _ (q61 _ hφ))))), (fun W h => f27 W (q61 _ h)) W hφ, (fun W h => f30 W (q61 _ h)) W hφ, (fun W h => f33 W (q61 _ h)) W hφ, (fun W h => f36 W (q61 _ h)) W hφ, (fun W h => (f60 W h)) W hφ⟩)) (.inr rfl)
end Go.Proofs.Ytoglbdaagfoddaa
