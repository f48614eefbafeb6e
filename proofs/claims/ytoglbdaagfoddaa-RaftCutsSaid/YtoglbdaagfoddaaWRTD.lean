import Derived.Test.YtoglbdaagfoddaaWRTC
set_option maxRecDepth 100000
set_option maxHeartbeats 4000000
set_option linter.unusedVariables false
set_option linter.unusedSimpArgs false
namespace Go.Proofs.Ytoglbdaagfoddaa
open Go.RowKit Go.Proofs.YtoglbdaagfoddaaW.PrintLast
noncomputable def m_law12_awake  : Option Bool :=
  (m_raft_New 0 (⟨0, 0, [0], (⟨#[]⟩ : ByteArray), (⟨0, 0, ([] : List GEntry)⟩ : GLog)⟩ : GHard) 0).bind fun x4 =>
  (m_raft_Tick x4 5).bind fun (z40 : GRaft × (List GNote)) =>
  (m_raft_New 0 (⟨0, 0, [0, 1, 2], (⟨#[]⟩ : ByteArray), (⟨0, 0, ([] : List GEntry)⟩ : GLog)⟩ : GHard) 0).bind fun x45 =>
  (m_raft_Tick x45 7).bind fun (z81 : GRaft × (List GNote)) =>
  if (z81.2.length : Int) ≠ 2 then
    some false
  else
    (at_ z81.2 1).bind fun x84 =>
    if x84.fTo ≠ 2 then
      some false
    else
      (at_ z81.2 0).bind fun x96 =>
      if x96.fKind ≠ 1 then
        some false
      else
        (m_raft_Receive z81.1 (⟨2, 1, 0, 1, 0, 0, 0, true, ([] : List GEntry), ([] : List Int), (⟨#[]⟩ : ByteArray)⟩ : GNote) 5).bind fun (z129 : GRaft × (List GNote)) =>
        if z40.1.fRole = 2 then
          if z40.1.fHard.fTerm = 1 then
            if z40.1.fCommit = 1 then
              if z81.1.fLeft = 7 then
                if z81.1.fRole = 1 then
                  if z129.1.fRole = 2 then
                    if (z129.2.length : Int) = 2 then
                      (at_ z129.2 0).bind fun x138 =>
                      if x138.fKind = 3 then
                        (at_ z129.2 0).bind fun x150 =>
                        if (x150.fEntries.length : Int) = 1 then
                          (m_raft_Majority [1, 2, 3] [3, 1]).bind fun x164 =>
                          some x164
                        else
                          some false
                      else
                        some false
                    else
                      some false
                  else
                    some false
                else
                  some false
              else
                some false
            else
              some false
          else
            some false
        else
          some false
theorem c_law12_awake {w0 : World} {M : Nat → Prop} {H : List (Nat × Nat × Obj)} {R : List (Nat × Row)} {φ : World → Prop}  (r : Bool) (hm : m_law12_awake = some r) :
    Cn Try.prog 9 #[] ⟨w0, M, H, R, φ⟩ (fun x : Unit => .bool r) (fun x => True) (fun x => ⟨w0, M, H, R, φ⟩) := by
 unfold m_law12_awake at hm
 refine cn_intro (fn := Try.f9) (N := 98) Try.func9 rfl Try.ntmps9 rfl <| c_seq <| c_region <| g_v rfl r_assign <| g_nil <| d_then <| c_seq <| c_region ?_
 refine g_e rfl (e_lit (tag := 100080) (l := [0]) (enc := (fun x : Int => [Value.int .i64 x])) (sz := 1) rfl Try.underlying23 (lit3_0 _) rfl rfl (fun _ => rfl)) (fun g1 _ => ?_)
 refine g_v rfl (r_build _ rfl (bld40_1 _ _ _)) ?_
 refine g_shut (tag := 100080) rfl (fun φ2 q2' => ?_)
 have q2 : ∀ W, φ2 W → φ W := fun W h => (q2' W h).1
 have f3 := fun (W : World) (h : φ2 W) => (q2' W h).2
 replace hm := bnd hm
 obtain ⟨x4, hx5, hm⟩ := hm
 refine g_cn ⟨w0, M, _, _, φ2⟩ (fun _ h => h) Try.call16 rfl rfl (c_raft_New 0 (⟨0, 0, [0], (⟨#[]⟩ : ByteArray), (⟨0, 0, ([] : List GEntry)⟩ : GLog)⟩ : GHard) (some ⟨g1, 0, none⟩) 1 (Nat.le_refl _) (fun W h => f3 W h) none 0 (Nat.le_refl 0) (fun W _ => Cl.nil _ _) 0 _ hx5) (fun ⟨A6, c7, A9, c10, A12, c13, A15, c16⟩ ⟨hc7, hc10, hc13, hc16⟩ => ?_)
 refine g_abs (fun φ18 q18' => ?_)
 have q18 : ∀ W, φ18 W → φ2 W := fun W h => (q18' W h).1
 have f8 := fun (W : World) (h : φ18 W) => (q18' W h).2.1
 have f11 := fun (W : World) (h : φ18 W) => (q18' W h).2.2.1
 have f14 := fun (W : World) (h : φ18 W) => (q18' W h).2.2.2.1
 have f17 := fun (W : World) (h : φ18 W) => (q18' W h).2.2.2.2
 replace hm := bnd hm
 obtain ⟨⟨x19, x20⟩, hx21, hm⟩ := hm
 refine g_cn ⟨w0, M, _, _, φ18⟩ (fun _ h => h) Try.call18 rfl rfl (c_raft_Tick x4 A6 c7 hc7 (fun W h => f8 W h) A9 c10 hc10 (fun W h => f11 W h) A12 c13 hc13 (fun W h => f14 W h) A15 c16 hc16 (fun W h => f17 W h) 5 _ hx21) (fun ⟨A22, c23, A25, c26, A28, c29, A31, c32, A34, c35, ps37⟩ ⟨hc23, hc26, hc29, hc32, hc35⟩ => ?_)
 refine g_sta _ (fun W h => (ok_frontR (t := 2004) (t' := 100114) h rfl)) ?_
 refine g_abs (fun φ39 q39' => ?_)
 have q39 : ∀ W, φ39 W → φ18 W := fun W h => (q39' W h).1
 have f24 := fun (W : World) (h : φ39 W) => (q39' W h).2.1
 have f27 := fun (W : World) (h : φ39 W) => (q39' W h).2.2.1
 have f30 := fun (W : World) (h : φ39 W) => (q39' W h).2.2.2.1
 have f33 := fun (W : World) (h : φ39 W) => (q39' W h).2.2.2.2.1
 have f38 := fun (W : World) (h : φ39 W) => (q39' W h).2.2.2.2.2
 refine g_v rfl r_move <| g_v rfl (r_extract rfl rfl) <| g_v rfl (r_extract rfl rfl) ?_
 refine g_e rfl (e_alloc 100010 Try.zeroValue43) (fun g41 _ => ?_)
 refine g_storeL (tag := 100010) rfl rfl rfl rfl Try.sizeOf43 rfl rfl <| g_v rfl r_assign <| g_nil <| d_then ?_
 refine c_flat [(1, .pointer (some ⟨g41, 0, none⟩))] ⟨rfl, trivial⟩ (fun u => ?_)
 refine c_sta ⟨w0, M, (100010, g41, .cells #[.int .i64 x19.fMe, .int .i64 x19.fRole, .int .i64 x19.fLeader, .int .i64 x19.fCommit, .int .i64 x19.fLeft, .int .i64 x19.fHard.fTerm, .int .i64 x19.fHard.fVote, .slice A22 x19.fHard.fVoters.length c23, .string x19.fHard.fSnap, .int .i64 x19.fHard.fLog.fBase, .int .i64 x19.fHard.fLog.fBaseTerm, .slice A25 x19.fHard.fLog.fEntries.length c26, .slice A28 x19.fVotes.length c29, .slice A31 x19.fMarks.length c32] 43 (0, 0)) :: H, (100114, ⟨.slice A34 x20.length c35, 25, 11, x20.length, (x20.zip ps37).flatMap GNote.encP⟩) :: R, φ39⟩ (fun _ h => h) <| c_seq <| c_region ?_
 refine g_e rfl (e_lit (tag := 100150) (l := [0, 1, 2]) (enc := (fun x : Int => [Value.int .i64 x])) (sz := 1) rfl Try.underlying23 (lit3_17 _ _ _) rfl rfl (fun _ => rfl)) (fun g42 _ => ?_)
 refine g_v rfl (r_build _ rfl (bld40_1 _ _ _)) ?_
 refine g_shut (tag := 100150) rfl (fun φ43 q43' => ?_)
 have q43 : ∀ W, φ43 W → φ39 W := fun W h => (q43' W h).1
 have f44 := fun (W : World) (h : φ43 W) => (q43' W h).2
 replace hm := bnd hm
 obtain ⟨x45, hx46, hm⟩ := hm
 refine g_cn ⟨w0, M, _, _, φ43⟩ (fun _ h => h) Try.call16 rfl rfl (c_raft_New 0 (⟨0, 0, [0, 1, 2], (⟨#[]⟩ : ByteArray), (⟨0, 0, ([] : List GEntry)⟩ : GLog)⟩ : GHard) (some ⟨g42, 0, none⟩) 3 (Nat.le_refl _) (fun W h => f44 W h) none 0 (Nat.le_refl 0) (fun W _ => Cl.nil _ _) 0 _ hx46) (fun ⟨A47, c48, A50, c51, A53, c54, A56, c57⟩ ⟨hc48, hc51, hc54, hc57⟩ => ?_)
 refine g_abs (fun φ59 q59' => ?_)
 have q59 : ∀ W, φ59 W → φ43 W := fun W h => (q59' W h).1
 have f49 := fun (W : World) (h : φ59 W) => (q59' W h).2.1
 have f52 := fun (W : World) (h : φ59 W) => (q59' W h).2.2.1
 have f55 := fun (W : World) (h : φ59 W) => (q59' W h).2.2.2.1
 have f58 := fun (W : World) (h : φ59 W) => (q59' W h).2.2.2.2
 replace hm := bnd hm
 obtain ⟨⟨x60, x61⟩, hx62, hm⟩ := hm
 refine g_cn ⟨w0, M, _, _, φ59⟩ (fun _ h => h) Try.call18 rfl rfl (c_raft_Tick x45 A47 c48 hc48 (fun W h => f49 W h) A50 c51 hc51 (fun W h => f52 W h) A53 c54 hc54 (fun W h => f55 W h) A56 c57 hc57 (fun W h => f58 W h) 7 _ hx62) (fun ⟨A63, c64, A66, c67, A69, c70, A72, c73, A75, c76, ps78⟩ ⟨hc64, hc67, hc70, hc73, hc76⟩ => ?_)
 refine g_sta _ (fun W h => (ok_frontR (t := 2004) (t' := 100184) h rfl)) ?_
 refine g_abs (fun φ80 q80' => ?_)
 have q80 : ∀ W, φ80 W → φ59 W := fun W h => (q80' W h).1
 have f65 := fun (W : World) (h : φ80 W) => (q80' W h).2.1
 have f68 := fun (W : World) (h : φ80 W) => (q80' W h).2.2.1
 have f71 := fun (W : World) (h : φ80 W) => (q80' W h).2.2.2.1
 have f74 := fun (W : World) (h : φ80 W) => (q80' W h).2.2.2.2.1
 have f79 := fun (W : World) (h : φ80 W) => (q80' W h).2.2.2.2.2
 refine g_v rfl r_move <| g_v rfl (r_extract rfl rfl) <| g_v rfl (r_extract rfl rfl) ?_
 refine g_e rfl (e_alloc 100030 Try.zeroValue43) (fun g82 _ => ?_)
 refine g_storeL (tag := 100030) rfl rfl rfl rfl Try.sizeOf43 rfl rfl <| g_v rfl r_assign <| g_nil <| d_then ?_
 refine c_flat [(1, .pointer (some ⟨g41, 0, none⟩)), (3, .pointer (some ⟨g82, 0, none⟩)), (4, .slice A75 x61.length c76)] ⟨rfl, rfl, rfl, trivial⟩ (fun u => ?_)
 refine c_sta ⟨w0, M, (100030, g82, .cells #[.int .i64 x60.fMe, .int .i64 x60.fRole, .int .i64 x60.fLeader, .int .i64 x60.fCommit, .int .i64 x60.fLeft, .int .i64 x60.fHard.fTerm, .int .i64 x60.fHard.fVote, .slice A63 x60.fHard.fVoters.length c64, .string x60.fHard.fSnap, .int .i64 x60.fHard.fLog.fBase, .int .i64 x60.fHard.fLog.fBaseTerm, .slice A66 x60.fHard.fLog.fEntries.length c67, .slice A69 x60.fVotes.length c70, .slice A72 x60.fMarks.length c73] 43 (0, 0)) :: (100010, g41, .cells #[.int .i64 x19.fMe, .int .i64 x19.fRole, .int .i64 x19.fLeader, .int .i64 x19.fCommit, .int .i64 x19.fLeft, .int .i64 x19.fHard.fTerm, .int .i64 x19.fHard.fVote, .slice A22 x19.fHard.fVoters.length c23, .string x19.fHard.fSnap, .int .i64 x19.fHard.fLog.fBase, .int .i64 x19.fHard.fLog.fBaseTerm, .slice A25 x19.fHard.fLog.fEntries.length c26, .slice A28 x19.fVotes.length c29, .slice A31 x19.fMarks.length c32] 43 (0, 0)) :: H, (100184, ⟨.slice A75 x61.length c76, 25, 11, x61.length, (x61.zip ps78).flatMap GNote.encP⟩) :: (100114, ⟨.slice A34 x20.length c35, 25, 11, x20.length, (x20.zip ps37).flatMap GNote.encP⟩) :: R, φ80⟩ (fun _ h => h) <| c_seq <| c_seq <| c_region <| g_v rfl r_move <| g_v rfl (r_lenL Try.underlying48 rfl) <| g_v rfl (r_neq rfl rfl) <| g_v rfl r_move ?_
 refine g_if rfl rfl rfl rfl rfl (fun h83 => ?_) (fun h83 => ?_)
 ·
  replace hm := ite_f hm (of_decide_eq_false h83)
  refine g_v rfl r_move <| g_do rfl rfl rfl rfl rfl h83 ?_
  replace hm := bnd hm
  obtain ⟨x84, hx84, hm⟩ := hm
  obtain ⟨pp88, hv89, hz90, hcp91⟩ := DOk.at_ hc76.1 hx84
  refine g_know _ (fun W hS => cl_at (p := (Sta.ok ⟨w0, M, (100030, g82, .cells #[.int .i64 x60.fMe, .int .i64 x60.fRole, .int .i64 x60.fLeader, .int .i64 x60.fCommit, .int .i64 x60.fLeft, .int .i64 x60.fHard.fTerm, .int .i64 x60.fHard.fVote, .slice A63 x60.fHard.fVoters.length c64, .string x60.fHard.fSnap, .int .i64 x60.fHard.fLog.fBase, .int .i64 x60.fHard.fLog.fBaseTerm, .slice A66 x60.fHard.fLog.fEntries.length c67, .slice A69 x60.fVotes.length c70, .slice A72 x60.fMarks.length c73] 43 (0, 0)) :: (100010, g41, .cells #[.int .i64 x19.fMe, .int .i64 x19.fRole, .int .i64 x19.fLeader, .int .i64 x19.fCommit, .int .i64 x19.fLeft, .int .i64 x19.fHard.fTerm, .int .i64 x19.fHard.fVote, .slice A22 x19.fHard.fVoters.length c23, .string x19.fHard.fSnap, .int .i64 x19.fHard.fLog.fBase, .int .i64 x19.fHard.fLog.fBaseTerm, .slice A25 x19.fHard.fLog.fEntries.length c26, .slice A28 x19.fVotes.length c29, .slice A31 x19.fMarks.length c32] 43 (0, 0)) :: H, (100184, ⟨.slice A75 x61.length c76, 25, 11, x61.length, (x61.zip ps78).flatMap GNote.encP⟩) :: (100114, ⟨.slice A34 x20.length c35, 25, 11, x20.length, (x20.zip ps37).flatMap GNote.encP⟩) :: R, φ80⟩)) (sz := 11) (fun _ => rfl) (by decide) hS (fun W hS => rowCl (S := ⟨w0, M, (100030, g82, .cells #[.int .i64 x60.fMe, .int .i64 x60.fRole, .int .i64 x60.fLeader, .int .i64 x60.fCommit, .int .i64 x60.fLeft, .int .i64 x60.fHard.fTerm, .int .i64 x60.fHard.fVote, .slice A63 x60.fHard.fVoters.length c64, .string x60.fHard.fSnap, .int .i64 x60.fHard.fLog.fBase, .int .i64 x60.fHard.fLog.fBaseTerm, .slice A66 x60.fHard.fLog.fEntries.length c67, .slice A69 x60.fVotes.length c70, .slice A72 x60.fMarks.length c73] 43 (0, 0)) :: (100010, g41, .cells #[.int .i64 x19.fMe, .int .i64 x19.fRole, .int .i64 x19.fLeader, .int .i64 x19.fCommit, .int .i64 x19.fLeft, .int .i64 x19.fHard.fTerm, .int .i64 x19.fHard.fVote, .slice A22 x19.fHard.fVoters.length c23, .string x19.fHard.fSnap, .int .i64 x19.fHard.fLog.fBase, .int .i64 x19.fHard.fLog.fBaseTerm, .slice A25 x19.fHard.fLog.fEntries.length c26, .slice A28 x19.fVotes.length c29, .slice A31 x19.fMarks.length c32] 43 (0, 0)) :: H, (100184, ⟨.slice A75 x61.length c76, 25, 11, x61.length, (x61.zip ps78).flatMap GNote.encP⟩) :: (100114, ⟨.slice A34 x20.length c35, 25, 11, x20.length, (x20.zip ps37).flatMap GNote.encP⟩) :: R, φ80⟩) (tag := 100184) rfl W hS) hv89) ?_
  rintro ⟨ad85, hA87, f86⟩
  have f92 := fun (W : World) (h : φ80 W) => (f79 W h _ hz90).1
  have f93 := fun (W : World) (h : φ80 W) => (f79 W h _ hz90).2
  refine g_v rfl (r_ix Try.underlying48 Try.sizeOf25 rfl hA87 rfl hx84) <| g_do rfl rfl rfl rfl rfl h83 ?_
  have f94 := fun (W : World) (h : (Sta.ok ⟨w0, M, (100030, g82, .cells #[.int .i64 x60.fMe, .int .i64 x60.fRole, .int .i64 x60.fLeader, .int .i64 x60.fCommit, .int .i64 x60.fLeft, .int .i64 x60.fHard.fTerm, .int .i64 x60.fHard.fVote, .slice A63 x60.fHard.fVoters.length c64, .string x60.fHard.fSnap, .int .i64 x60.fHard.fLog.fBase, .int .i64 x60.fHard.fLog.fBaseTerm, .slice A66 x60.fHard.fLog.fEntries.length c67, .slice A69 x60.fVotes.length c70, .slice A72 x60.fMarks.length c73] 43 (0, 0)) :: (100010, g41, .cells #[.int .i64 x19.fMe, .int .i64 x19.fRole, .int .i64 x19.fLeader, .int .i64 x19.fCommit, .int .i64 x19.fLeft, .int .i64 x19.fHard.fTerm, .int .i64 x19.fHard.fVote, .slice A22 x19.fHard.fVoters.length c23, .string x19.fHard.fSnap, .int .i64 x19.fHard.fLog.fBase, .int .i64 x19.fHard.fLog.fBaseTerm, .slice A25 x19.fHard.fLog.fEntries.length c26, .slice A28 x19.fVotes.length c29, .slice A31 x19.fMarks.length c32] 43 (0, 0)) :: H, (100184, ⟨.slice A75 x61.length c76, 25, 11, x61.length, (x61.zip ps78).flatMap GNote.encP⟩) :: (100114, ⟨.slice A34 x20.length c35, 25, 11, x20.length, (x20.zip ps37).flatMap GNote.encP⟩) :: R, φ80⟩) W) => Cl.drop (f86 W h) 2
  refine g_v rfl (r_fieldF Try.underlying25 rfl Try.sizeOf3 rfl) <| g_do rfl rfl rfl rfl rfl h83 <| g_v rfl (r_ld rfl Try.isAgg3 (fun W hS => Cl.head (f94 W hS))) <| g_do rfl rfl rfl rfl rfl h83 <| g_v rfl (r_neq rfl rfl) <| g_v rfl (r_pick0 rfl h83) <| g_v rfl r_move ?_
  refine g_if rfl rfl rfl rfl rfl (fun h95 => ?_) (fun h95 => ?_)
  ·
   replace hm := ite_f hm (of_decide_eq_false h95)
   refine g_v rfl r_move <| g_do rfl rfl rfl rfl rfl h95 ?_
   replace hm := bnd hm
   obtain ⟨x96, hx96, hm⟩ := hm
   obtain ⟨pp100, hv101, hz102, hcp103⟩ := DOk.at_ hc76.1 hx96
   refine g_know _ (fun W hS => cl_at (p := (Sta.ok ⟨w0, M, (100030, g82, .cells #[.int .i64 x60.fMe, .int .i64 x60.fRole, .int .i64 x60.fLeader, .int .i64 x60.fCommit, .int .i64 x60.fLeft, .int .i64 x60.fHard.fTerm, .int .i64 x60.fHard.fVote, .slice A63 x60.fHard.fVoters.length c64, .string x60.fHard.fSnap, .int .i64 x60.fHard.fLog.fBase, .int .i64 x60.fHard.fLog.fBaseTerm, .slice A66 x60.fHard.fLog.fEntries.length c67, .slice A69 x60.fVotes.length c70, .slice A72 x60.fMarks.length c73] 43 (0, 0)) :: (100010, g41, .cells #[.int .i64 x19.fMe, .int .i64 x19.fRole, .int .i64 x19.fLeader, .int .i64 x19.fCommit, .int .i64 x19.fLeft, .int .i64 x19.fHard.fTerm, .int .i64 x19.fHard.fVote, .slice A22 x19.fHard.fVoters.length c23, .string x19.fHard.fSnap, .int .i64 x19.fHard.fLog.fBase, .int .i64 x19.fHard.fLog.fBaseTerm, .slice A25 x19.fHard.fLog.fEntries.length c26, .slice A28 x19.fVotes.length c29, .slice A31 x19.fMarks.length c32] 43 (0, 0)) :: H, (100184, ⟨.slice A75 x61.length c76, 25, 11, x61.length, (x61.zip ps78).flatMap GNote.encP⟩) :: (100114, ⟨.slice A34 x20.length c35, 25, 11, x20.length, (x20.zip ps37).flatMap GNote.encP⟩) :: R, φ80⟩)) (sz := 11) (fun _ => rfl) (by decide) hS (fun W hS => rowCl (S := ⟨w0, M, (100030, g82, .cells #[.int .i64 x60.fMe, .int .i64 x60.fRole, .int .i64 x60.fLeader, .int .i64 x60.fCommit, .int .i64 x60.fLeft, .int .i64 x60.fHard.fTerm, .int .i64 x60.fHard.fVote, .slice A63 x60.fHard.fVoters.length c64, .string x60.fHard.fSnap, .int .i64 x60.fHard.fLog.fBase, .int .i64 x60.fHard.fLog.fBaseTerm, .slice A66 x60.fHard.fLog.fEntries.length c67, .slice A69 x60.fVotes.length c70, .slice A72 x60.fMarks.length c73] 43 (0, 0)) :: (100010, g41, .cells #[.int .i64 x19.fMe, .int .i64 x19.fRole, .int .i64 x19.fLeader, .int .i64 x19.fCommit, .int .i64 x19.fLeft, .int .i64 x19.fHard.fTerm, .int .i64 x19.fHard.fVote, .slice A22 x19.fHard.fVoters.length c23, .string x19.fHard.fSnap, .int .i64 x19.fHard.fLog.fBase, .int .i64 x19.fHard.fLog.fBaseTerm, .slice A25 x19.fHard.fLog.fEntries.length c26, .slice A28 x19.fVotes.length c29, .slice A31 x19.fMarks.length c32] 43 (0, 0)) :: H, (100184, ⟨.slice A75 x61.length c76, 25, 11, x61.length, (x61.zip ps78).flatMap GNote.encP⟩) :: (100114, ⟨.slice A34 x20.length c35, 25, 11, x20.length, (x20.zip ps37).flatMap GNote.encP⟩) :: R, φ80⟩) (tag := 100184) rfl W hS) hv101) ?_
   rintro ⟨ad97, hA99, f98⟩
   have f104 := fun (W : World) (h : φ80 W) => (f79 W h _ hz102).1
   have f105 := fun (W : World) (h : φ80 W) => (f79 W h _ hz102).2
   refine g_v rfl (r_ix Try.underlying48 Try.sizeOf25 rfl hA99 rfl hx96) <| g_do rfl rfl rfl rfl rfl h95 ?_
   have f106 := fun (W : World) (h : (Sta.ok ⟨w0, M, (100030, g82, .cells #[.int .i64 x60.fMe, .int .i64 x60.fRole, .int .i64 x60.fLeader, .int .i64 x60.fCommit, .int .i64 x60.fLeft, .int .i64 x60.fHard.fTerm, .int .i64 x60.fHard.fVote, .slice A63 x60.fHard.fVoters.length c64, .string x60.fHard.fSnap, .int .i64 x60.fHard.fLog.fBase, .int .i64 x60.fHard.fLog.fBaseTerm, .slice A66 x60.fHard.fLog.fEntries.length c67, .slice A69 x60.fVotes.length c70, .slice A72 x60.fMarks.length c73] 43 (0, 0)) :: (100010, g41, .cells #[.int .i64 x19.fMe, .int .i64 x19.fRole, .int .i64 x19.fLeader, .int .i64 x19.fCommit, .int .i64 x19.fLeft, .int .i64 x19.fHard.fTerm, .int .i64 x19.fHard.fVote, .slice A22 x19.fHard.fVoters.length c23, .string x19.fHard.fSnap, .int .i64 x19.fHard.fLog.fBase, .int .i64 x19.fHard.fLog.fBaseTerm, .slice A25 x19.fHard.fLog.fEntries.length c26, .slice A28 x19.fVotes.length c29, .slice A31 x19.fMarks.length c32] 43 (0, 0)) :: H, (100184, ⟨.slice A75 x61.length c76, 25, 11, x61.length, (x61.zip ps78).flatMap GNote.encP⟩) :: (100114, ⟨.slice A34 x20.length c35, 25, 11, x20.length, (x20.zip ps37).flatMap GNote.encP⟩) :: R, φ80⟩) W) => Cl.drop (f98 W h) 0
   refine g_v rfl (r_fieldF Try.underlying25 rfl Try.sizeOf3 rfl) <| g_do rfl rfl rfl rfl rfl h95 <| g_v rfl (r_ld rfl Try.isAgg3 (fun W hS => Cl.head (f106 W hS))) <| g_do rfl rfl rfl rfl rfl h95 <| g_v rfl (r_neq rfl rfl) <| g_v rfl (r_pick0 rfl h95) <| g_nil <| d_then ?_
   refine c_flat [(1, .pointer (some ⟨g41, 0, none⟩)), (3, .pointer (some ⟨g82, 0, none⟩)), (37, .bool (decide (x96.fKind ≠ 1)))] ⟨rfl, rfl, rfl, trivial⟩ (fun u => ?_)
   refine c_cond rfl (fun h107 => ?_) (fun h107 => ?_)
   ·
    replace hm := ite_t hm (of_decide_eq_true h107)
    refine c_seq <| c_region <| g_v rfl r_assign <| g_nil <| d_then <| c_ret <| d_ret_then ?_
    cases hm
    exact d_retC () Try.results9 (res_tmp (res_nil rfl)) trivial (fun W h => ok_pre (H1 := [_, _]) (R1 := [_, _]) h (fun W hφ => (q2 _ (q18 _ (q39 _ (q43 _ (q59 _ (q80 _ hφ)))))))) (.inr rfl)
   replace hm := ite_f hm (of_decide_eq_false h107)
   refine c_skip <| d_then <| c_seq <| c_region <| g_v rfl (r_loadA (tag := 100030) rfl rfl Try.isAgg43 Try.sizeOf43 rfl rfl) <| g_v rfl (r_build _ rfl (bld25_18 _ _ _ _ _)) ?_
   replace hm := bnd hm
   obtain ⟨⟨x108, x109⟩, hx110, hm⟩ := hm
   refine g_cn ⟨w0, M, _, _, φ80⟩ (fun _ h => h) Try.call17 rfl rfl (c_raft_Receive x60 A63 c64 hc64 (fun W h => f65 W h) A66 c67 hc67 (fun W h => f68 W h) A69 c70 hc70 (fun W h => f71 W h) A72 c73 hc73 (fun W h => f74 W h) (⟨2, 1, 0, 1, 0, 0, 0, true, ([] : List GEntry), ([] : List Int), (⟨#[]⟩ : ByteArray)⟩ : GNote) none 0 (Nat.le_refl 0) (fun W _ => Cl.nil _ _) none 0 (Nat.le_refl 0) (fun W _ => Cl.nil _ _) 5 _ hx110) (fun ⟨A111, c112, A114, c115, A117, c118, A120, c121, A123, c124, ps126⟩ ⟨hc112, hc115, hc118, hc121, hc124⟩ => ?_)
   refine g_sta _ (fun W h => (ok_frontR (t := 2004) (t' := 100414) h rfl)) ?_
   refine g_abs (fun φ128 q128' => ?_)
   have q128 : ∀ W, φ128 W → φ80 W := fun W h => (q128' W h).1
   have f113 := fun (W : World) (h : φ128 W) => (q128' W h).2.1
   have f116 := fun (W : World) (h : φ128 W) => (q128' W h).2.2.1
   have f119 := fun (W : World) (h : φ128 W) => (q128' W h).2.2.2.1
   have f122 := fun (W : World) (h : φ128 W) => (q128' W h).2.2.2.2.1
   have f127 := fun (W : World) (h : φ128 W) => (q128' W h).2.2.2.2.2
   refine g_v rfl r_move <| g_v rfl (r_extract rfl rfl) <| g_v rfl (r_extract rfl rfl) ?_
   refine g_e rfl (e_alloc 100050 Try.zeroValue43) (fun g130 _ => ?_)
   refine g_storeL (tag := 100050) rfl rfl rfl rfl Try.sizeOf43 rfl rfl <| g_v rfl r_assign <| g_nil <| d_then ?_
   refine c_flat [(1, .pointer (some ⟨g41, 0, none⟩)), (3, .pointer (some ⟨g82, 0, none⟩)), (5, .pointer (some ⟨g130, 0, none⟩)), (6, .slice A123 x109.length c124)] ⟨rfl, rfl, rfl, rfl, trivial⟩ (fun u => ?_)
   refine c_sta ⟨w0, M, (100050, g130, .cells #[.int .i64 x108.fMe, .int .i64 x108.fRole, .int .i64 x108.fLeader, .int .i64 x108.fCommit, .int .i64 x108.fLeft, .int .i64 x108.fHard.fTerm, .int .i64 x108.fHard.fVote, .slice A111 x108.fHard.fVoters.length c112, .string x108.fHard.fSnap, .int .i64 x108.fHard.fLog.fBase, .int .i64 x108.fHard.fLog.fBaseTerm, .slice A114 x108.fHard.fLog.fEntries.length c115, .slice A117 x108.fVotes.length c118, .slice A120 x108.fMarks.length c121] 43 (0, 0)) :: (100030, g82, .cells #[.int .i64 x60.fMe, .int .i64 x60.fRole, .int .i64 x60.fLeader, .int .i64 x60.fCommit, .int .i64 x60.fLeft, .int .i64 x60.fHard.fTerm, .int .i64 x60.fHard.fVote, .slice A63 x60.fHard.fVoters.length c64, .string x60.fHard.fSnap, .int .i64 x60.fHard.fLog.fBase, .int .i64 x60.fHard.fLog.fBaseTerm, .slice A66 x60.fHard.fLog.fEntries.length c67, .slice A69 x60.fVotes.length c70, .slice A72 x60.fMarks.length c73] 43 (0, 0)) :: (100010, g41, .cells #[.int .i64 x19.fMe, .int .i64 x19.fRole, .int .i64 x19.fLeader, .int .i64 x19.fCommit, .int .i64 x19.fLeft, .int .i64 x19.fHard.fTerm, .int .i64 x19.fHard.fVote, .slice A22 x19.fHard.fVoters.length c23, .string x19.fHard.fSnap, .int .i64 x19.fHard.fLog.fBase, .int .i64 x19.fHard.fLog.fBaseTerm, .slice A25 x19.fHard.fLog.fEntries.length c26, .slice A28 x19.fVotes.length c29, .slice A31 x19.fMarks.length c32] 43 (0, 0)) :: H, (100414, ⟨.slice A123 x109.length c124, 25, 11, x109.length, (x109.zip ps126).flatMap GNote.encP⟩) :: (100184, ⟨.slice A75 x61.length c76, 25, 11, x61.length, (x61.zip ps78).flatMap GNote.encP⟩) :: (100114, ⟨.slice A34 x20.length c35, 25, 11, x20.length, (x20.zip ps37).flatMap GNote.encP⟩) :: R, φ128⟩ (fun _ h => h) <| c_seq <| c_region <| g_v rfl (r_field (n := 1) Try.underlying43 rfl Try.sizeOf3 rfl rfl) <| g_v rfl (r_load (tag := 100010) rfl rfl rfl Try.isAgg3) <| g_v rfl (r_eql rfl rfl) <| g_v rfl r_move ?_
   refine g_if rfl rfl rfl rfl rfl (fun h131 => ?_) (fun h131 => ?_)
   ·
    replace hm := ite_t hm (of_decide_eq_true h131)
    refine g_v rfl (r_field (n := 5) Try.underlying43 rfl Try.sizeOf40 rfl rfl) <| g_do rfl rfl rfl rfl rfl h131 <| g_v rfl (r_field (n := 5) Try.underlying40 rfl Try.sizeOf3 rfl rfl) <| g_do rfl rfl rfl rfl rfl h131 <| g_v rfl (r_load (tag := 100010) rfl rfl rfl Try.isAgg3) <| g_do rfl rfl rfl rfl rfl h131 <| g_v rfl (r_eql rfl rfl) <| g_v rfl (r_pick1 rfl h131) <| g_v rfl r_move ?_
    refine g_if rfl rfl rfl rfl rfl (fun h132 => ?_) (fun h132 => ?_)
    ·
     replace hm := ite_t hm (of_decide_eq_true h132)
     refine g_v rfl (r_field (n := 3) Try.underlying43 rfl Try.sizeOf3 rfl rfl) <| g_do rfl rfl rfl rfl rfl h132 <| g_v rfl (r_load (tag := 100010) rfl rfl rfl Try.isAgg3) <| g_do rfl rfl rfl rfl rfl h132 <| g_v rfl (r_eql rfl rfl) <| g_v rfl (r_pick1 rfl h132) <| g_v rfl r_move ?_
     refine g_if rfl rfl rfl rfl rfl (fun h133 => ?_) (fun h133 => ?_)
     ·
      replace hm := ite_t hm (of_decide_eq_true h133)
      refine g_v rfl (r_field (n := 4) Try.underlying43 rfl Try.sizeOf3 rfl rfl) <| g_do rfl rfl rfl rfl rfl h133 <| g_v rfl (r_load (tag := 100030) rfl rfl rfl Try.isAgg3) <| g_do rfl rfl rfl rfl rfl h133 <| g_v rfl (r_eql rfl rfl) <| g_v rfl (r_pick1 rfl h133) <| g_v rfl r_move ?_
      refine g_if rfl rfl rfl rfl rfl (fun h134 => ?_) (fun h134 => ?_)
      ·
       replace hm := ite_t hm (of_decide_eq_true h134)
       refine g_v rfl (r_field (n := 1) Try.underlying43 rfl Try.sizeOf3 rfl rfl) <| g_do rfl rfl rfl rfl rfl h134 <| g_v rfl (r_load (tag := 100030) rfl rfl rfl Try.isAgg3) <| g_do rfl rfl rfl rfl rfl h134 <| g_v rfl (r_eql rfl rfl) <| g_v rfl (r_pick1 rfl h134) <| g_v rfl r_move ?_
       refine g_if rfl rfl rfl rfl rfl (fun h135 => ?_) (fun h135 => ?_)
       ·
        replace hm := ite_t hm (of_decide_eq_true h135)
        refine g_v rfl (r_field (n := 1) Try.underlying43 rfl Try.sizeOf3 rfl rfl) <| g_do rfl rfl rfl rfl rfl h135 <| g_v rfl (r_load (tag := 100050) rfl rfl rfl Try.isAgg3) <| g_do rfl rfl rfl rfl rfl h135 <| g_v rfl (r_eql rfl rfl) <| g_v rfl (r_pick1 rfl h135) <| g_v rfl r_move ?_
        refine g_if rfl rfl rfl rfl rfl (fun h136 => ?_) (fun h136 => ?_)
        ·
         replace hm := ite_t hm (of_decide_eq_true h136)
         refine g_v rfl r_move <| g_do rfl rfl rfl rfl rfl h136 <| g_v rfl (r_lenL Try.underlying48 rfl) <| g_do rfl rfl rfl rfl rfl h136 <| g_v rfl (r_eql rfl rfl) <| g_v rfl (r_pick1 rfl h136) <| g_v rfl r_move ?_
         refine g_if rfl rfl rfl rfl rfl (fun h137 => ?_) (fun h137 => ?_)
         ·
          replace hm := ite_t hm (of_decide_eq_true h137)
          refine g_v rfl r_move <| g_do rfl rfl rfl rfl rfl h137 ?_
          replace hm := bnd hm
          obtain ⟨x138, hx138, hm⟩ := hm
          obtain ⟨pp142, hv143, hz144, hcp145⟩ := DOk.at_ hc124.1 hx138
          refine g_know _ (fun W hS => cl_at (p := (Sta.ok ⟨w0, M, (100050, g130, .cells #[.int .i64 x108.fMe, .int .i64 x108.fRole, .int .i64 x108.fLeader, .int .i64 x108.fCommit, .int .i64 x108.fLeft, .int .i64 x108.fHard.fTerm, .int .i64 x108.fHard.fVote, .slice A111 x108.fHard.fVoters.length c112, .string x108.fHard.fSnap, .int .i64 x108.fHard.fLog.fBase, .int .i64 x108.fHard.fLog.fBaseTerm, .slice A114 x108.fHard.fLog.fEntries.length c115, .slice A117 x108.fVotes.length c118, .slice A120 x108.fMarks.length c121] 43 (0, 0)) :: (100030, g82, .cells #[.int .i64 x60.fMe, .int .i64 x60.fRole, .int .i64 x60.fLeader, .int .i64 x60.fCommit, .int .i64 x60.fLeft, .int .i64 x60.fHard.fTerm, .int .i64 x60.fHard.fVote, .slice A63 x60.fHard.fVoters.length c64, .string x60.fHard.fSnap, .int .i64 x60.fHard.fLog.fBase, .int .i64 x60.fHard.fLog.fBaseTerm, .slice A66 x60.fHard.fLog.fEntries.length c67, .slice A69 x60.fVotes.length c70, .slice A72 x60.fMarks.length c73] 43 (0, 0)) :: (100010, g41, .cells #[.int .i64 x19.fMe, .int .i64 x19.fRole, .int .i64 x19.fLeader, .int .i64 x19.fCommit, .int .i64 x19.fLeft, .int .i64 x19.fHard.fTerm, .int .i64 x19.fHard.fVote, .slice A22 x19.fHard.fVoters.length c23, .string x19.fHard.fSnap, .int .i64 x19.fHard.fLog.fBase, .int .i64 x19.fHard.fLog.fBaseTerm, .slice A25 x19.fHard.fLog.fEntries.length c26, .slice A28 x19.fVotes.length c29, .slice A31 x19.fMarks.length c32] 43 (0, 0)) :: H, (100414, ⟨.slice A123 x109.length c124, 25, 11, x109.length, (x109.zip ps126).flatMap GNote.encP⟩) :: (100184, ⟨.slice A75 x61.length c76, 25, 11, x61.length, (x61.zip ps78).flatMap GNote.encP⟩) :: (100114, ⟨.slice A34 x20.length c35, 25, 11, x20.length, (x20.zip ps37).flatMap GNote.encP⟩) :: R, φ128⟩)) (sz := 11) (fun _ => rfl) (by decide) hS (fun W hS => rowCl (S := ⟨w0, M, (100050, g130, .cells #[.int .i64 x108.fMe, .int .i64 x108.fRole, .int .i64 x108.fLeader, .int .i64 x108.fCommit, .int .i64 x108.fLeft, .int .i64 x108.fHard.fTerm, .int .i64 x108.fHard.fVote, .slice A111 x108.fHard.fVoters.length c112, .string x108.fHard.fSnap, .int .i64 x108.fHard.fLog.fBase, .int .i64 x108.fHard.fLog.fBaseTerm, .slice A114 x108.fHard.fLog.fEntries.length c115, .slice A117 x108.fVotes.length c118, .slice A120 x108.fMarks.length c121] 43 (0, 0)) :: (100030, g82, .cells #[.int .i64 x60.fMe, .int .i64 x60.fRole, .int .i64 x60.fLeader, .int .i64 x60.fCommit, .int .i64 x60.fLeft, .int .i64 x60.fHard.fTerm, .int .i64 x60.fHard.fVote, .slice A63 x60.fHard.fVoters.length c64, .string x60.fHard.fSnap, .int .i64 x60.fHard.fLog.fBase, .int .i64 x60.fHard.fLog.fBaseTerm, .slice A66 x60.fHard.fLog.fEntries.length c67, .slice A69 x60.fVotes.length c70, .slice A72 x60.fMarks.length c73] 43 (0, 0)) :: (100010, g41, .cells #[.int .i64 x19.fMe, .int .i64 x19.fRole, .int .i64 x19.fLeader, .int .i64 x19.fCommit, .int .i64 x19.fLeft, .int .i64 x19.fHard.fTerm, .int .i64 x19.fHard.fVote, .slice A22 x19.fHard.fVoters.length c23, .string x19.fHard.fSnap, .int .i64 x19.fHard.fLog.fBase, .int .i64 x19.fHard.fLog.fBaseTerm, .slice A25 x19.fHard.fLog.fEntries.length c26, .slice A28 x19.fVotes.length c29, .slice A31 x19.fMarks.length c32] 43 (0, 0)) :: H, (100414, ⟨.slice A123 x109.length c124, 25, 11, x109.length, (x109.zip ps126).flatMap GNote.encP⟩) :: (100184, ⟨.slice A75 x61.length c76, 25, 11, x61.length, (x61.zip ps78).flatMap GNote.encP⟩) :: (100114, ⟨.slice A34 x20.length c35, 25, 11, x20.length, (x20.zip ps37).flatMap GNote.encP⟩) :: R, φ128⟩) (tag := 100414) rfl W hS) hv143) ?_
          rintro ⟨ad139, hA141, f140⟩
          have f146 := fun (W : World) (h : φ128 W) => (f127 W h _ hz144).1
          have f147 := fun (W : World) (h : φ128 W) => (f127 W h _ hz144).2
          refine g_v rfl (r_ix Try.underlying48 Try.sizeOf25 rfl hA141 rfl hx138) <| g_do rfl rfl rfl rfl rfl h137 ?_
          have f148 := fun (W : World) (h : (Sta.ok ⟨w0, M, (100050, g130, .cells #[.int .i64 x108.fMe, .int .i64 x108.fRole, .int .i64 x108.fLeader, .int .i64 x108.fCommit, .int .i64 x108.fLeft, .int .i64 x108.fHard.fTerm, .int .i64 x108.fHard.fVote, .slice A111 x108.fHard.fVoters.length c112, .string x108.fHard.fSnap, .int .i64 x108.fHard.fLog.fBase, .int .i64 x108.fHard.fLog.fBaseTerm, .slice A114 x108.fHard.fLog.fEntries.length c115, .slice A117 x108.fVotes.length c118, .slice A120 x108.fMarks.length c121] 43 (0, 0)) :: (100030, g82, .cells #[.int .i64 x60.fMe, .int .i64 x60.fRole, .int .i64 x60.fLeader, .int .i64 x60.fCommit, .int .i64 x60.fLeft, .int .i64 x60.fHard.fTerm, .int .i64 x60.fHard.fVote, .slice A63 x60.fHard.fVoters.length c64, .string x60.fHard.fSnap, .int .i64 x60.fHard.fLog.fBase, .int .i64 x60.fHard.fLog.fBaseTerm, .slice A66 x60.fHard.fLog.fEntries.length c67, .slice A69 x60.fVotes.length c70, .slice A72 x60.fMarks.length c73] 43 (0, 0)) :: (100010, g41, .cells #[.int .i64 x19.fMe, .int .i64 x19.fRole, .int .i64 x19.fLeader, .int .i64 x19.fCommit, .int .i64 x19.fLeft, .int .i64 x19.fHard.fTerm, .int .i64 x19.fHard.fVote, .slice A22 x19.fHard.fVoters.length c23, .string x19.fHard.fSnap, .int .i64 x19.fHard.fLog.fBase, .int .i64 x19.fHard.fLog.fBaseTerm, .slice A25 x19.fHard.fLog.fEntries.length c26, .slice A28 x19.fVotes.length c29, .slice A31 x19.fMarks.length c32] 43 (0, 0)) :: H, (100414, ⟨.slice A123 x109.length c124, 25, 11, x109.length, (x109.zip ps126).flatMap GNote.encP⟩) :: (100184, ⟨.slice A75 x61.length c76, 25, 11, x61.length, (x61.zip ps78).flatMap GNote.encP⟩) :: (100114, ⟨.slice A34 x20.length c35, 25, 11, x20.length, (x20.zip ps37).flatMap GNote.encP⟩) :: R, φ128⟩) W) => Cl.drop (f140 W h) 0
          refine g_v rfl (r_fieldF Try.underlying25 rfl Try.sizeOf3 rfl) <| g_do rfl rfl rfl rfl rfl h137 <| g_v rfl (r_ld rfl Try.isAgg3 (fun W hS => Cl.head (f148 W hS))) <| g_do rfl rfl rfl rfl rfl h137 <| g_v rfl (r_eql rfl rfl) <| g_v rfl (r_pick1 rfl h137) <| g_v rfl r_move ?_
          refine g_if rfl rfl rfl rfl rfl (fun h149 => ?_) (fun h149 => ?_)
          ·
           replace hm := ite_t hm (of_decide_eq_true h149)
           refine g_v rfl r_move <| g_do rfl rfl rfl rfl rfl h149 ?_
           replace hm := bnd hm
           obtain ⟨x150, hx150, hm⟩ := hm
           obtain ⟨pp154, hv155, hz156, hcp157⟩ := DOk.at_ hc124.1 hx150
           refine g_know _ (fun W hS => cl_at (p := (Sta.ok ⟨w0, M, (100050, g130, .cells #[.int .i64 x108.fMe, .int .i64 x108.fRole, .int .i64 x108.fLeader, .int .i64 x108.fCommit, .int .i64 x108.fLeft, .int .i64 x108.fHard.fTerm, .int .i64 x108.fHard.fVote, .slice A111 x108.fHard.fVoters.length c112, .string x108.fHard.fSnap, .int .i64 x108.fHard.fLog.fBase, .int .i64 x108.fHard.fLog.fBaseTerm, .slice A114 x108.fHard.fLog.fEntries.length c115, .slice A117 x108.fVotes.length c118, .slice A120 x108.fMarks.length c121] 43 (0, 0)) :: (100030, g82, .cells #[.int .i64 x60.fMe, .int .i64 x60.fRole, .int .i64 x60.fLeader, .int .i64 x60.fCommit, .int .i64 x60.fLeft, .int .i64 x60.fHard.fTerm, .int .i64 x60.fHard.fVote, .slice A63 x60.fHard.fVoters.length c64, .string x60.fHard.fSnap, .int .i64 x60.fHard.fLog.fBase, .int .i64 x60.fHard.fLog.fBaseTerm, .slice A66 x60.fHard.fLog.fEntries.length c67, .slice A69 x60.fVotes.length c70, .slice A72 x60.fMarks.length c73] 43 (0, 0)) :: (100010, g41, .cells #[.int .i64 x19.fMe, .int .i64 x19.fRole, .int .i64 x19.fLeader, .int .i64 x19.fCommit, .int .i64 x19.fLeft, .int .i64 x19.fHard.fTerm, .int .i64 x19.fHard.fVote, .slice A22 x19.fHard.fVoters.length c23, .string x19.fHard.fSnap, .int .i64 x19.fHard.fLog.fBase, .int .i64 x19.fHard.fLog.fBaseTerm, .slice A25 x19.fHard.fLog.fEntries.length c26, .slice A28 x19.fVotes.length c29, .slice A31 x19.fMarks.length c32] 43 (0, 0)) :: H, (100414, ⟨.slice A123 x109.length c124, 25, 11, x109.length, (x109.zip ps126).flatMap GNote.encP⟩) :: (100184, ⟨.slice A75 x61.length c76, 25, 11, x61.length, (x61.zip ps78).flatMap GNote.encP⟩) :: (100114, ⟨.slice A34 x20.length c35, 25, 11, x20.length, (x20.zip ps37).flatMap GNote.encP⟩) :: R, φ128⟩)) (sz := 11) (fun _ => rfl) (by decide) hS (fun W hS => rowCl (S := ⟨w0, M, (100050, g130, .cells #[.int .i64 x108.fMe, .int .i64 x108.fRole, .int .i64 x108.fLeader, .int .i64 x108.fCommit, .int .i64 x108.fLeft, .int .i64 x108.fHard.fTerm, .int .i64 x108.fHard.fVote, .slice A111 x108.fHard.fVoters.length c112, .string x108.fHard.fSnap, .int .i64 x108.fHard.fLog.fBase, .int .i64 x108.fHard.fLog.fBaseTerm, .slice A114 x108.fHard.fLog.fEntries.length c115, .slice A117 x108.fVotes.length c118, .slice A120 x108.fMarks.length c121] 43 (0, 0)) :: (100030, g82, .cells #[.int .i64 x60.fMe, .int .i64 x60.fRole, .int .i64 x60.fLeader, .int .i64 x60.fCommit, .int .i64 x60.fLeft, .int .i64 x60.fHard.fTerm, .int .i64 x60.fHard.fVote, .slice A63 x60.fHard.fVoters.length c64, .string x60.fHard.fSnap, .int .i64 x60.fHard.fLog.fBase, .int .i64 x60.fHard.fLog.fBaseTerm, .slice A66 x60.fHard.fLog.fEntries.length c67, .slice A69 x60.fVotes.length c70, .slice A72 x60.fMarks.length c73] 43 (0, 0)) :: (100010, g41, .cells #[.int .i64 x19.fMe, .int .i64 x19.fRole, .int .i64 x19.fLeader, .int .i64 x19.fCommit, .int .i64 x19.fLeft, .int .i64 x19.fHard.fTerm, .int .i64 x19.fHard.fVote, .slice A22 x19.fHard.fVoters.length c23, .string x19.fHard.fSnap, .int .i64 x19.fHard.fLog.fBase, .int .i64 x19.fHard.fLog.fBaseTerm, .slice A25 x19.fHard.fLog.fEntries.length c26, .slice A28 x19.fVotes.length c29, .slice A31 x19.fMarks.length c32] 43 (0, 0)) :: H, (100414, ⟨.slice A123 x109.length c124, 25, 11, x109.length, (x109.zip ps126).flatMap GNote.encP⟩) :: (100184, ⟨.slice A75 x61.length c76, 25, 11, x61.length, (x61.zip ps78).flatMap GNote.encP⟩) :: (100114, ⟨.slice A34 x20.length c35, 25, 11, x20.length, (x20.zip ps37).flatMap GNote.encP⟩) :: R, φ128⟩) (tag := 100414) rfl W hS) hv155) ?_
           rintro ⟨ad151, hA153, f152⟩
           have f158 := fun (W : World) (h : φ128 W) => (f127 W h _ hz156).1
           have f159 := fun (W : World) (h : φ128 W) => (f127 W h _ hz156).2
           refine g_v rfl (r_ix Try.underlying48 Try.sizeOf25 rfl hA153 rfl hx150) <| g_do rfl rfl rfl rfl rfl h149 ?_
           have f160 := fun (W : World) (h : (Sta.ok ⟨w0, M, (100050, g130, .cells #[.int .i64 x108.fMe, .int .i64 x108.fRole, .int .i64 x108.fLeader, .int .i64 x108.fCommit, .int .i64 x108.fLeft, .int .i64 x108.fHard.fTerm, .int .i64 x108.fHard.fVote, .slice A111 x108.fHard.fVoters.length c112, .string x108.fHard.fSnap, .int .i64 x108.fHard.fLog.fBase, .int .i64 x108.fHard.fLog.fBaseTerm, .slice A114 x108.fHard.fLog.fEntries.length c115, .slice A117 x108.fVotes.length c118, .slice A120 x108.fMarks.length c121] 43 (0, 0)) :: (100030, g82, .cells #[.int .i64 x60.fMe, .int .i64 x60.fRole, .int .i64 x60.fLeader, .int .i64 x60.fCommit, .int .i64 x60.fLeft, .int .i64 x60.fHard.fTerm, .int .i64 x60.fHard.fVote, .slice A63 x60.fHard.fVoters.length c64, .string x60.fHard.fSnap, .int .i64 x60.fHard.fLog.fBase, .int .i64 x60.fHard.fLog.fBaseTerm, .slice A66 x60.fHard.fLog.fEntries.length c67, .slice A69 x60.fVotes.length c70, .slice A72 x60.fMarks.length c73] 43 (0, 0)) :: (100010, g41, .cells #[.int .i64 x19.fMe, .int .i64 x19.fRole, .int .i64 x19.fLeader, .int .i64 x19.fCommit, .int .i64 x19.fLeft, .int .i64 x19.fHard.fTerm, .int .i64 x19.fHard.fVote, .slice A22 x19.fHard.fVoters.length c23, .string x19.fHard.fSnap, .int .i64 x19.fHard.fLog.fBase, .int .i64 x19.fHard.fLog.fBaseTerm, .slice A25 x19.fHard.fLog.fEntries.length c26, .slice A28 x19.fVotes.length c29, .slice A31 x19.fMarks.length c32] 43 (0, 0)) :: H, (100414, ⟨.slice A123 x109.length c124, 25, 11, x109.length, (x109.zip ps126).flatMap GNote.encP⟩) :: (100184, ⟨.slice A75 x61.length c76, 25, 11, x61.length, (x61.zip ps78).flatMap GNote.encP⟩) :: (100114, ⟨.slice A34 x20.length c35, 25, 11, x20.length, (x20.zip ps37).flatMap GNote.encP⟩) :: R, φ128⟩) W) => Cl.drop (f152 W h) 8
           refine g_v rfl (r_fieldF Try.underlying25 rfl Try.sizeOf22 rfl) <| g_do rfl rfl rfl rfl rfl h149 <| g_v rfl (r_ld rfl Try.isAgg22 (fun W hS => Cl.head (f160 W hS))) <| g_do rfl rfl rfl rfl rfl h149 <| g_v rfl (r_lenL Try.underlying22 rfl) <| g_do rfl rfl rfl rfl rfl h149 <| g_v rfl (r_eql rfl rfl) <| g_v rfl (r_pick1 rfl h149) <| g_v rfl r_move ?_
           refine g_if rfl rfl rfl rfl rfl (fun h161 => ?_) (fun h161 => ?_)
           ·
            replace hm := ite_t hm (of_decide_eq_true h161)
            refine g_e rfl (e_lit (tag := 100940) (l := [1, 2, 3]) (enc := (fun x : Int => [Value.int .i64 x])) (sz := 1) rfl Try.underlying23 (lit3_17 _ _ _) rfl rfl (fun _ => rfl)) (fun g162 _ => ?_)
            refine g_do rfl rfl rfl rfl rfl h161 ?_
            refine g_e rfl (e_lit (tag := 100950) (l := [3, 1]) (enc := (fun x : Int => [Value.int .i64 x])) (sz := 1) rfl Try.underlying23 (lit3_23 _ _) rfl rfl (fun _ => rfl)) (fun g163 _ => ?_)
            refine g_do rfl rfl rfl rfl rfl h161 ?_
            replace hm := bnd hm
            obtain ⟨x164, hx165, hm⟩ := hm
            refine g_cn ⟨w0, M, _, _, φ128⟩ (fun _ h => h) Try.call13 rfl rfl (c_raft_Majority [1, 2, 3] (some ⟨g162, 0, none⟩) 3 (Nat.le_refl _) (fun W hS => rowCl (tag := 100940) rfl W hS) [3, 1] (some ⟨g163, 0, none⟩) 2 (Nat.le_refl _) (fun W hS => rowCl (tag := 100950) rfl W hS) _ hx165) (fun _ _ => ?_)
            refine g_v rfl (r_pick1 rfl h161) <| g_v rfl r_assign <| g_nil <| d_then ?_
            refine c_flat [(0, .bool x164)] ⟨rfl, trivial⟩ (fun u => ?_)
            refine c_sta ⟨w0, M, (100050, g130, .cells #[.int .i64 x108.fMe, .int .i64 x108.fRole, .int .i64 x108.fLeader, .int .i64 x108.fCommit, .int .i64 x108.fLeft, .int .i64 x108.fHard.fTerm, .int .i64 x108.fHard.fVote, .slice A111 x108.fHard.fVoters.length c112, .string x108.fHard.fSnap, .int .i64 x108.fHard.fLog.fBase, .int .i64 x108.fHard.fLog.fBaseTerm, .slice A114 x108.fHard.fLog.fEntries.length c115, .slice A117 x108.fVotes.length c118, .slice A120 x108.fMarks.length c121] 43 (0, 0)) :: (100030, g82, .cells #[.int .i64 x60.fMe, .int .i64 x60.fRole, .int .i64 x60.fLeader, .int .i64 x60.fCommit, .int .i64 x60.fLeft, .int .i64 x60.fHard.fTerm, .int .i64 x60.fHard.fVote, .slice A63 x60.fHard.fVoters.length c64, .string x60.fHard.fSnap, .int .i64 x60.fHard.fLog.fBase, .int .i64 x60.fHard.fLog.fBaseTerm, .slice A66 x60.fHard.fLog.fEntries.length c67, .slice A69 x60.fVotes.length c70, .slice A72 x60.fMarks.length c73] 43 (0, 0)) :: (100010, g41, .cells #[.int .i64 x19.fMe, .int .i64 x19.fRole, .int .i64 x19.fLeader, .int .i64 x19.fCommit, .int .i64 x19.fLeft, .int .i64 x19.fHard.fTerm, .int .i64 x19.fHard.fVote, .slice A22 x19.fHard.fVoters.length c23, .string x19.fHard.fSnap, .int .i64 x19.fHard.fLog.fBase, .int .i64 x19.fHard.fLog.fBaseTerm, .slice A25 x19.fHard.fLog.fEntries.length c26, .slice A28 x19.fVotes.length c29, .slice A31 x19.fMarks.length c32] 43 (0, 0)) :: H, (100950, ⟨.slice (some ⟨g163, 0, none⟩) [3, 1].length 2, 3, 1, [3, 1].length, [3, 1].flatMap (fun x : Int => [Value.int .i64 x])⟩) :: (100940, ⟨.slice (some ⟨g162, 0, none⟩) [1, 2, 3].length 3, 3, 1, [1, 2, 3].length, [1, 2, 3].flatMap (fun x : Int => [Value.int .i64 x])⟩) :: (100414, ⟨.slice A123 x109.length c124, 25, 11, x109.length, (x109.zip ps126).flatMap GNote.encP⟩) :: (100184, ⟨.slice A75 x61.length c76, 25, 11, x61.length, (x61.zip ps78).flatMap GNote.encP⟩) :: (100114, ⟨.slice A34 x20.length c35, 25, 11, x20.length, (x20.zip ps37).flatMap GNote.encP⟩) :: R, φ128⟩ (fun _ h => h) <| c_ret ?_
            cases hm
            exact d_retC () Try.results9 (res_tmp (res_nil rfl)) trivial (fun W h => ok_pre (H1 := [_, _, _]) (R1 := [_, _, _, _, _]) h (fun W hφ => (q2 _ (q18 _ (q39 _ (q43 _ (q59 _ (q80 _ (q128 _ hφ))))))))) (.inr rfl)
           replace hm := ite_f hm (of_decide_eq_false h161)
           refine g_no rfl rfl rfl rfl rfl h161 <| g_no rfl rfl rfl rfl rfl h161 <| g_v rfl (r_pick0 rfl h161) <| g_v rfl r_assign <| g_nil <| d_then ?_
           refine c_flat [(0, .bool false)] ⟨rfl, trivial⟩ (fun u => ?_)
           refine c_ret ?_
           cases hm
           exact d_retC () Try.results9 (res_tmp (res_nil rfl)) trivial (fun W h => ok_pre (H1 := [_, _, _]) (R1 := [_, _, _]) h (fun W hφ => (q2 _ (q18 _ (q39 _ (q43 _ (q59 _ (q80 _ (q128 _ hφ))))))))) (.inr rfl)
          replace hm := ite_f hm (of_decide_eq_false h149)
          iterate 5 refine g_no rfl rfl rfl rfl rfl h149 ?_
          refine g_v rfl (r_pick0 rfl h149) <| g_v rfl r_move ?_
          iterate 3 refine g_no rfl rfl rfl rfl rfl rfl ?_
          refine g_v rfl (r_pick0 rfl rfl) <| g_v rfl r_assign <| g_nil <| d_then ?_
          refine c_flat [(0, .bool false)] ⟨rfl, trivial⟩ (fun u => ?_)
          refine c_ret ?_
          cases hm
          exact d_retC () Try.results9 (res_tmp (res_nil rfl)) trivial (fun W h => ok_pre (H1 := [_, _, _]) (R1 := [_, _, _]) h (fun W hφ => (q2 _ (q18 _ (q39 _ (q43 _ (q59 _ (q80 _ (q128 _ hφ))))))))) (.inr rfl)
         replace hm := ite_f hm (of_decide_eq_false h137)
         iterate 4 refine g_no rfl rfl rfl rfl rfl h137 ?_
         refine g_v rfl (r_pick0 rfl h137) <| g_v rfl r_move ?_
         iterate 6 refine g_no rfl rfl rfl rfl rfl rfl ?_
         refine g_v rfl (r_pick0 rfl rfl) <| g_v rfl r_move ?_
         iterate 3 refine g_no rfl rfl rfl rfl rfl rfl ?_
         refine g_v rfl (r_pick0 rfl rfl) <| g_v rfl r_assign <| g_nil <| d_then ?_
         refine c_flat [(0, .bool false)] ⟨rfl, trivial⟩ (fun u => ?_)
         refine c_ret ?_
         cases hm
         exact d_retC () Try.results9 (res_tmp (res_nil rfl)) trivial (fun W h => ok_pre (H1 := [_, _, _]) (R1 := [_, _, _]) h (fun W hφ => (q2 _ (q18 _ (q39 _ (q43 _ (q59 _ (q80 _ (q128 _ hφ))))))))) (.inr rfl)
        replace hm := ite_f hm (of_decide_eq_false h136)
        refine g_no rfl rfl rfl rfl rfl h136 <| g_no rfl rfl rfl rfl rfl h136 <| g_v rfl (r_pick0 rfl h136) <| g_v rfl r_move ?_
        iterate 5 refine g_no rfl rfl rfl rfl rfl rfl ?_
        refine g_v rfl (r_pick0 rfl rfl) <| g_v rfl r_move ?_
        iterate 6 refine g_no rfl rfl rfl rfl rfl rfl ?_
        refine g_v rfl (r_pick0 rfl rfl) <| g_v rfl r_move ?_
        iterate 3 refine g_no rfl rfl rfl rfl rfl rfl ?_
        refine g_v rfl (r_pick0 rfl rfl) <| g_v rfl r_assign <| g_nil <| d_then ?_
        refine c_flat [(0, .bool false)] ⟨rfl, trivial⟩ (fun u => ?_)
        refine c_ret ?_
        cases hm
        exact d_retC () Try.results9 (res_tmp (res_nil rfl)) trivial (fun W h => ok_pre (H1 := [_, _, _]) (R1 := [_, _, _]) h (fun W hφ => (q2 _ (q18 _ (q39 _ (q43 _ (q59 _ (q80 _ (q128 _ hφ))))))))) (.inr rfl)
       replace hm := ite_f hm (of_decide_eq_false h135)
       refine g_no rfl rfl rfl rfl rfl h135 <| g_no rfl rfl rfl rfl rfl h135 <| g_v rfl (r_pick0 rfl h135) <| g_v rfl r_move ?_
       iterate 3 refine g_no rfl rfl rfl rfl rfl rfl ?_
       refine g_v rfl (r_pick0 rfl rfl) <| g_v rfl r_move ?_
       iterate 5 refine g_no rfl rfl rfl rfl rfl rfl ?_
       refine g_v rfl (r_pick0 rfl rfl) <| g_v rfl r_move ?_
       iterate 6 refine g_no rfl rfl rfl rfl rfl rfl ?_
       refine g_v rfl (r_pick0 rfl rfl) <| g_v rfl r_move ?_
       iterate 3 refine g_no rfl rfl rfl rfl rfl rfl ?_
       refine g_v rfl (r_pick0 rfl rfl) <| g_v rfl r_assign <| g_nil <| d_then ?_
       refine c_flat [(0, .bool false)] ⟨rfl, trivial⟩ (fun u => ?_)
       refine c_ret ?_
       cases hm
       exact d_retC () Try.results9 (res_tmp (res_nil rfl)) trivial (fun W h => ok_pre (H1 := [_, _, _]) (R1 := [_, _, _]) h (fun W hφ => (q2 _ (q18 _ (q39 _ (q43 _ (q59 _ (q80 _ (q128 _ hφ))))))))) (.inr rfl)
      replace hm := ite_f hm (of_decide_eq_false h134)
      refine g_no rfl rfl rfl rfl rfl h134 <| g_no rfl rfl rfl rfl rfl h134 <| g_v rfl (r_pick0 rfl h134) <| g_v rfl r_move ?_
      iterate 3 refine g_no rfl rfl rfl rfl rfl rfl ?_
      refine g_v rfl (r_pick0 rfl rfl) <| g_v rfl r_move ?_
      iterate 3 refine g_no rfl rfl rfl rfl rfl rfl ?_
      refine g_v rfl (r_pick0 rfl rfl) <| g_v rfl r_move ?_
      iterate 5 refine g_no rfl rfl rfl rfl rfl rfl ?_
      refine g_v rfl (r_pick0 rfl rfl) <| g_v rfl r_move ?_
      iterate 6 refine g_no rfl rfl rfl rfl rfl rfl ?_
      refine g_v rfl (r_pick0 rfl rfl) <| g_v rfl r_move ?_
      iterate 3 refine g_no rfl rfl rfl rfl rfl rfl ?_
      refine g_v rfl (r_pick0 rfl rfl) <| g_v rfl r_assign <| g_nil <| d_then ?_
      refine c_flat [(0, .bool false)] ⟨rfl, trivial⟩ (fun u => ?_)
      refine c_ret ?_
      cases hm
      exact d_retC () Try.results9 (res_tmp (res_nil rfl)) trivial (fun W h => ok_pre (H1 := [_, _, _]) (R1 := [_, _, _]) h (fun W hφ => (q2 _ (q18 _ (q39 _ (q43 _ (q59 _ (q80 _ (q128 _ hφ))))))))) (.inr rfl)
     replace hm := ite_f hm (of_decide_eq_false h133)
     refine g_no rfl rfl rfl rfl rfl h133 <| g_no rfl rfl rfl rfl rfl h133 <| g_v rfl (r_pick0 rfl h133) <| g_v rfl r_move ?_
     iterate 3 refine g_no rfl rfl rfl rfl rfl rfl ?_
     refine g_v rfl (r_pick0 rfl rfl) <| g_v rfl r_move ?_
     iterate 3 refine g_no rfl rfl rfl rfl rfl rfl ?_
     refine g_v rfl (r_pick0 rfl rfl) <| g_v rfl r_move ?_
     iterate 3 refine g_no rfl rfl rfl rfl rfl rfl ?_
     refine g_v rfl (r_pick0 rfl rfl) <| g_v rfl r_move ?_
     iterate 5 refine g_no rfl rfl rfl rfl rfl rfl ?_
     refine g_v rfl (r_pick0 rfl rfl) <| g_v rfl r_move ?_
     iterate 6 refine g_no rfl rfl rfl rfl rfl rfl ?_
     refine g_v rfl (r_pick0 rfl rfl) <| g_v rfl r_move ?_
     iterate 3 refine g_no rfl rfl rfl rfl rfl rfl ?_
     refine g_v rfl (r_pick0 rfl rfl) <| g_v rfl r_assign <| g_nil <| d_then ?_
     refine c_flat [(0, .bool false)] ⟨rfl, trivial⟩ (fun u => ?_)
     refine c_ret ?_
     cases hm
     exact d_retC () Try.results9 (res_tmp (res_nil rfl)) trivial (fun W h => ok_pre (H1 := [_, _, _]) (R1 := [_, _, _]) h (fun W hφ => (q2 _ (q18 _ (q39 _ (q43 _ (q59 _ (q80 _ (q128 _ hφ))))))))) (.inr rfl)
    replace hm := ite_f hm (of_decide_eq_false h132)
    refine g_no rfl rfl rfl rfl rfl h132 <| g_no rfl rfl rfl rfl rfl h132 <| g_v rfl (r_pick0 rfl h132) <| g_v rfl r_move ?_
    iterate 3 refine g_no rfl rfl rfl rfl rfl rfl ?_
    refine g_v rfl (r_pick0 rfl rfl) <| g_v rfl r_move ?_
    iterate 3 refine g_no rfl rfl rfl rfl rfl rfl ?_
    refine g_v rfl (r_pick0 rfl rfl) <| g_v rfl r_move ?_
    iterate 3 refine g_no rfl rfl rfl rfl rfl rfl ?_
    refine g_v rfl (r_pick0 rfl rfl) <| g_v rfl r_move ?_
    iterate 3 refine g_no rfl rfl rfl rfl rfl rfl ?_
    refine g_v rfl (r_pick0 rfl rfl) <| g_v rfl r_move ?_
    iterate 5 refine g_no rfl rfl rfl rfl rfl rfl ?_
    refine g_v rfl (r_pick0 rfl rfl) <| g_v rfl r_move ?_
    iterate 6 refine g_no rfl rfl rfl rfl rfl rfl ?_
    refine g_v rfl (r_pick0 rfl rfl) <| g_v rfl r_move ?_
    iterate 3 refine g_no rfl rfl rfl rfl rfl rfl ?_
    refine g_v rfl (r_pick0 rfl rfl) <| g_v rfl r_assign <| g_nil <| d_then ?_
    refine c_flat [(0, .bool false)] ⟨rfl, trivial⟩ (fun u => ?_)
    refine c_ret ?_
    cases hm
    exact d_retC () Try.results9 (res_tmp (res_nil rfl)) trivial (fun W h => ok_pre (H1 := [_, _, _]) (R1 := [_, _, _]) h (fun W hφ => (q2 _ (q18 _ (q39 _ (q43 _ (q59 _ (q80 _ (q128 _ hφ))))))))) (.inr rfl)
   replace hm := ite_f hm (of_decide_eq_false h131)
   iterate 3 refine g_no rfl rfl rfl rfl rfl h131 ?_
   refine g_v rfl (r_pick0 rfl h131) <| g_v rfl r_move ?_
   iterate 3 refine g_no rfl rfl rfl rfl rfl rfl ?_
   refine g_v rfl (r_pick0 rfl rfl) <| g_v rfl r_move ?_
   iterate 3 refine g_no rfl rfl rfl rfl rfl rfl ?_
   refine g_v rfl (r_pick0 rfl rfl) <| g_v rfl r_move ?_
   iterate 3 refine g_no rfl rfl rfl rfl rfl rfl ?_
   refine g_v rfl (r_pick0 rfl rfl) <| g_v rfl r_move ?_
   iterate 3 refine g_no rfl rfl rfl rfl rfl rfl ?_
   refine g_v rfl (r_pick0 rfl rfl) <| g_v rfl r_move ?_
   iterate 3 refine g_no rfl rfl rfl rfl rfl rfl ?_
   refine g_v rfl (r_pick0 rfl rfl) <| g_v rfl r_move ?_
   iterate 5 refine g_no rfl rfl rfl rfl rfl rfl ?_
   refine g_v rfl (r_pick0 rfl rfl) <| g_v rfl r_move ?_
   iterate 6 refine g_no rfl rfl rfl rfl rfl rfl ?_
   refine g_v rfl (r_pick0 rfl rfl) <| g_v rfl r_move ?_
   iterate 3 refine g_no rfl rfl rfl rfl rfl rfl ?_
   refine g_v rfl (r_pick0 rfl rfl) <| g_v rfl r_assign <| g_nil <| d_then ?_
   refine c_flat [(0, .bool false)] ⟨rfl, trivial⟩ (fun u => ?_)
   refine c_ret ?_
   cases hm
   exact d_retC () Try.results9 (res_tmp (res_nil rfl)) trivial (fun W h => ok_pre (H1 := [_, _, _]) (R1 := [_, _, _]) h (fun W hφ => (q2 _ (q18 _ (q39 _ (q43 _ (q59 _ (q80 _ (q128 _ hφ))))))))) (.inr rfl)
  replace hm := ite_t hm (of_decide_eq_true h95)
  iterate 4 refine g_no rfl rfl rfl rfl rfl h95 ?_
  refine g_v rfl (r_pick1 rfl h95) <| g_nil <| d_then ?_
  refine c_flat [(1, .pointer (some ⟨g41, 0, none⟩)), (3, .pointer (some ⟨g82, 0, none⟩)), (37, .bool true)] ⟨rfl, rfl, rfl, trivial⟩ (fun u => ?_)
  refine c_cond1 rfl rfl <| c_seq <| c_region <| g_v rfl r_assign <| g_nil <| d_then <| c_ret <| d_ret_then ?_
  cases hm
  exact d_retC () Try.results9 (res_tmp (res_nil rfl)) trivial (fun W h => ok_pre (H1 := [_, _]) (R1 := [_, _]) h (fun W hφ => (q2 _ (q18 _ (q39 _ (q43 _ (q59 _ (q80 _ hφ)))))))) (.inr rfl)
 replace hm := ite_t hm (of_decide_eq_true h83)
 iterate 4 refine g_no rfl rfl rfl rfl rfl h83 ?_
 refine g_v rfl (r_pick1 rfl h83) <| g_v rfl r_move ?_
 iterate 5 refine g_no rfl rfl rfl rfl rfl rfl ?_
 refine g_v rfl (r_pick1 rfl rfl) <| g_nil <| d_then <| c_cond1 rfl rfl <| c_seq <| c_region <| g_v rfl r_assign <| g_nil <| d_then <| c_ret ?_
 refine d_ret_then ?_
 cases hm
 exact d_retC () Try.results9 (res_tmp (res_nil rfl)) trivial (fun W h => ok_pre (H1 := [_, _]) (R1 := [_, _]) h (fun W hφ => (q2 _ (q18 _ (q39 _ (q43 _ (q59 _ (q80 _ hφ)))))))) (.inr rfl)
noncomputable def m_law12_pick_j1 (p1 : Int) (i2 : Int) : Option Int :=
  (dvd p1).bind fun u3 =>
  some (i2.tmod p1)
noncomputable def m_law12_pick (p0 : Int) (p1 : Int) : Option Int :=
  if p0 < 0 then
    m_law12_pick_j1 p1 (w64 (0 - w64 (p0 + 1)))
  else
    m_law12_pick_j1 p1 p0
theorem c_law12_pick {w0 : World} {M : Nat → Prop} {H : List (Nat × Nat × Obj)} {R : List (Nat × Row)} {φ : World → Prop} (p0 : Int) (p1 : Int) (r : Int) (hm : m_law12_pick p0 p1 = some r) :
    Cn Try.prog 15 #[.int .i64 p0, .int .i64 p1] ⟨w0, M, H, R, φ⟩ (fun x : Unit => .int .i64 r) (fun x => True) (fun x => ⟨w0, M, H, R, φ⟩) := by
 unfold m_law12_pick at hm
 refine cn_intro (fn := Try.f15) (N := 13) Try.func15 rfl Try.ntmps15 rfl <| c_seq <| c_region <| g_v rfl r_assign <| g_nil <| d_then <| c_seq ?_
 refine c_cut (ι := Int) [0, 1] (fun i2 => [(0, .int .i64 i2)]) (fun i2 => ⟨w0, M, H, R, φ⟩) (fun i2 => m_law12_pick_j1 p1 i2 = some r) ?_ (fun i2 u hm => ?_)
 ·
  refine c_seq <| c_region <| g_v rfl r_move <| g_v rfl (r_lss rfl rfl) <| g_nil <| d_then ?_
  refine c_cond rfl (fun h4 => ?_) (fun h4 => ?_)
  ·
   replace hm := ite_t hm (of_decide_eq_true h4)
   refine c_region <| g_v rfl r_move <| g_v rfl (r_add rfl rfl rfl) <| g_v rfl (r_neg rfl rfl) <| g_v rfl r_assign <| g_nil ?_
   exact d_round (w64 (0 - w64 (p0 + 1))) hm Nat.zero_lt_one ⟨rfl, rfl, trivial⟩ (fun W h => h.phi (fun W hφ => hφ))
  replace hm := ite_f hm (of_decide_eq_false h4)
  refine c_skip ?_
  exact d_round p0 hm Nat.zero_lt_one ⟨rfl, rfl, trivial⟩ (fun W h => h.phi (fun W hφ => hφ))
 unfold m_law12_pick_j1 at hm
 refine d_flat [(0, .int .i64 i2), (1, .int .i64 p1)] ⟨rfl, rfl, trivial⟩ (fun u => ?_)
 refine d_sta ⟨w0, M, H, R, φ⟩ (fun _ h => h) <| d_then <| c_seq <| c_region <| g_v rfl r_move <| g_v rfl r_move ?_
 replace hm := bnd hm
 obtain ⟨u3, hu3, hm⟩ := hm
 refine g_v rfl (r_rem rfl rfl (dvd_some hu3) rfl) <| g_v rfl r_assign <| g_nil <| d_then <| c_ret ?_
 cases hm
 exact d_retC () Try.results15 (res_tmp (res_nil rfl)) trivial (fun W h => ok_pre (H1 := []) (R1 := []) h (fun W hφ => hφ)) (.inr rfl)
theorem lit5_24 (z0 : Int) : Try.prog.builtSlice 5 1 [(0, .int .u8 z0)] = some #[.int .u8 z0] := by kernel_rfl
noncomputable def m_raft_state_change_c1 (p0 : GEntry) : Option Bool :=
  some (decide (p0.fKind = 1))
theorem c_raft_state_change_c1 {w0 : World} {M : Nat → Prop} {H : List (Nat × Nat × Obj)} {R : List (Nat × Row)} {φ : World → Prop} (p0 : GEntry) (r : Bool) (hm : m_raft_state_change_c1 p0 = some r) :
    Cn Try.prog 70 #[.agg #[.int .i64 p0.fTerm, .int .i64 p0.fKind, .string p0.fData]] ⟨w0, M, H, R, φ⟩ (fun x : Unit => .bool r) (fun x => True) (fun x => ⟨w0, M, H, R, φ⟩) := by
 unfold m_raft_state_change_c1 at hm
 refine cn_intro (fn := Try.f70) (N := 6) Try.func70 rfl Try.ntmps70 rfl <| c_seq <| c_region ?_
 refine g_e rfl (e_box 100010 rfl) (fun g1 _ => ?_)
 refine g_v rfl r_assign <| g_nil <| d_then <| c_seq <| c_region <| g_v rfl (r_field (n := 1) Try.underlying36 rfl Try.sizeOf3 rfl rfl) <| g_v rfl (r_load (tag := 100010) rfl rfl rfl Try.isAgg3) <| g_v rfl (r_eql rfl rfl) <| g_v rfl r_assign <| g_nil ?_
 refine d_then <| c_ret ?_
 cases hm
 exact d_retC () Try.results70 (res_tmp (res_nil rfl)) trivial (fun W h => ok_pre (H1 := [_]) (R1 := []) h (fun W hφ => hφ)) (.inr rfl)
noncomputable def m_slices_IndexFunc_85_j1  : Option Int :=
  some (-1)
noncomputable def m_slices_IndexFunc_85_s2 (p0 : List GEntry) (i30 : Int) : Option (Int ⊕ (Unit ⊕ Int)) :=
  if i30 < (p0.length : Int) then
    (at_ p0 i30).bind fun x42 =>
    (m_raft_state_change_c1 x42).bind fun x46 =>
    if x46 = true then
      some (.inr (.inr i30))
    else
      some (.inl (w64 (i30 + 1)))
  else
    some (.inr (.inl ()))
noncomputable def m_slices_IndexFunc_85 (p0 : List GEntry) : Option Int :=
  (loop (fun s => m_slices_IndexFunc_85_s2 p0 s) 0).bind fun e => Sum.elim (fun e => m_slices_IndexFunc_85_j1) (fun x => some x) e
theorem c_slices_IndexFunc_85 {w0 : World} {M : Nat → Prop} {H : List (Nat × Nat × Obj)} {R : List (Nat × Row)} {φ : World → Prop} (p0 : List GEntry) (Ap0_0 : Option Addr) (cp0_0 : Nat) (hcp0_0 : p0.length ≤ cp0_0) (fp0_0 : ∀ W, (Sta.mk w0 M H R φ).ok W → Cl W Ap0_0 (p0.flatMap GEntry.enc)) (r : Int) (hm : m_slices_IndexFunc_85 p0 = some r) :
    Cn Try.prog 85 #[.slice Ap0_0 p0.length cp0_0, .func (.func 70) #[] #[]] ⟨w0, M, H, R, φ⟩ (fun x : Unit => .int .i64 r) (fun x => True) (fun x => ⟨w0, M, H, R, φ⟩) := by
 unfold m_slices_IndexFunc_85 at hm
 refine cn_intro (fn := Try.f85) (N := 19) Try.func85 rfl Try.ntmps85 rfl <| c_seq <| c_region <| g_v rfl r_assign <| g_nil <| d_then <| c_seq <| c_seq <| c_region <| g_v rfl r_move ?_
 refine g_v rfl (r_lenL Try.underlying22 rfl) <| g_v rfl r_move <| g_nil <| d_then ?_
 refine c_cut (ι := Unit) [] (fun _ => []) (fun _ => ⟨w0, M, H, R, φ⟩) (fun _ => m_slices_IndexFunc_85_j1 = some r) ?_ (fun _ u hm => ?_)
 ·
  refine c_block ?_
  replace hm := bnd hm
  obtain ⟨out2, hl2, hr2⟩ := hm
  obtain ⟨n40', hl2⟩ := loop_lp hl2
  refine c_loopU (ι := Nat × Int) [0, 1, 7, 8] (fun ⟨n40, i30⟩ => [(8, .int .i64 i30)]) (fun ⟨n40, i30⟩ => ⟨w0, M, H, R, φ⟩) (fun ⟨n40, i30⟩ => Lp (fun s => m_slices_IndexFunc_85_s2 p0 s) n40 i30 out2) (fun ⟨n40, i30⟩ => n40) (n40', 0) hl2 ⟨rfl, rfl, rfl, rfl, trivial⟩ (fun W h => h.phi (fun W hφ => hφ)) (fun ⟨n40, i30⟩ u hlp => ?_)
  obtain ⟨o2, hm, hnx2⟩ := lp_step hlp
  clear hlp
  replace hm : m_slices_IndexFunc_85_s2 p0 i30 = some o2 := hm
  unfold m_slices_IndexFunc_85_s2 at hm
  refine c_flat [(0, .slice Ap0_0 p0.length cp0_0), (1, .func (.func 70) #[] #[]), (7, .int .i64 (p0.length : Int)), (8, .int .i64 i30)] ⟨rfl, rfl, rfl, rfl, trivial⟩ (fun u => ?_)
  refine c_sta ⟨w0, M, H, R, φ⟩ (fun _ h => h) <| c_seq <| c_region <| g_v rfl (r_lss rfl rfl) <| g_nil <| d_then <| c_seq ?_
  refine c_cond rfl (fun h41 => ?_) (fun h41 => ?_)
  ·
   replace hm := ite_t hm (of_decide_eq_true h41)
   refine c_skip <| d_then <| c_seq <| c_block <| c_seq <| c_region <| g_v rfl r_move <| g_v rfl r_assign <| g_nil <| d_then ?_
   refine c_seq <| c_region ?_
   iterate 3 refine g_v rfl r_move ?_
   replace hm := bnd hm
   obtain ⟨x42, hx42, hm⟩ := hm
   refine g_know _ (fun W hS => cl_at (p := (Sta.mk w0 M H R φ).ok) (sz := 3) (fun _ => rfl) (by decide) (ok_pre (H1 := []) (R1 := []) hS (fun W h => h)) fp0_0 hx42) ?_
   rintro ⟨ad43, hA45, f44⟩
   refine g_v rfl (r_ix Try.underlying22 Try.sizeOf36 rfl hA45 rfl hx42) <| g_v rfl (r_ldA rfl Try.isAgg36 Try.sizeOf36 (fun W hS => (f44 W (ok_pre (H1 := []) (R1 := []) hS (fun W h => h))).take 3) rfl) ?_
   replace hm := bnd hm
   obtain ⟨x46, hx47, hm⟩ := hm
   refine g_cnv ⟨w0, M, _, _, φ⟩ (fun _ h => h) Try.call70 rfl rfl rfl (c_raft_state_change_c1 x42 _ hx47) (fun _ _ => ?_)
   refine g_nil <| d_then ?_
   refine c_flat [(0, .slice Ap0_0 p0.length cp0_0), (1, .func (.func 70) #[] #[]), (5, .int .i64 i30), (7, .int .i64 (p0.length : Int)), (8, .int .i64 i30), (16, .bool x46)] ⟨rfl, rfl, rfl, rfl, rfl, rfl, trivial⟩ (fun u => ?_)
   refine c_cond rfl (fun h48 => ?_) (fun h48 => ?_)
   ·
    replace hm := ite_t hm h48
    refine c_seq <| c_region <| g_v rfl r_move <| g_v rfl r_assign <| g_nil <| d_then <| c_ret <| d_ret_block <| d_ret_then <| d_ret_then ?_
    refine d_ret_block <| d_ret_then <| d_ret_then ?_
    replace hm := nx_out (C := (fun e : Unit ⊕ Int => Sum.elim (fun e => m_slices_IndexFunc_85_j1) (fun x => some x) e = some r)) hm hnx2 hr2
    replace hm : some i30 = some r := hm
    cases hm
    exact d_retC () Try.results85 (res_tmp (res_nil rfl)) trivial (fun W h => ok_pre (H1 := []) (R1 := []) h (fun W hφ => hφ)) (.inr rfl)
   replace hm := ite_f hm (bool_nt h48)
   refine c_skip <| d_normal_block <| d_then <| c_region <| g_v rfl (r_add rfl rfl rfl) <| g_v rfl r_move <| g_nil ?_
   obtain ⟨n49, hn49, hlp⟩ := nx_inl hm hnx2
   exact d_round (n49, w64 (i30 + 1)) hlp hn49 ⟨rfl, rfl, rfl, rfl, trivial⟩ (fun W h => h.phi (fun W hφ => hφ))
  replace hm := ite_f hm (of_decide_eq_false h41)
  refine c_exit <| d_exit_then <| d_exit_then <| d_exit_block ?_
  replace hm := nx_out (C := (fun e : Unit ⊕ Int => Sum.elim (fun e => m_slices_IndexFunc_85_j1) (fun x => some x) e = some r)) hm hnx2 hr2
  exact d_round () hm Nat.zero_lt_one trivial (fun W h => h.phi (fun W hφ => hφ))
 unfold m_slices_IndexFunc_85_j1 at hm
 refine d_flat [] trivial (fun u => ?_)
 refine d_sta ⟨w0, M, H, R, φ⟩ (fun _ h => h) <| d_then <| c_seq <| c_region <| g_v rfl r_assign <| g_nil <| d_then <| c_ret ?_
 cases hm
 exact d_retC () Try.results85 (res_tmp (res_nil rfl)) trivial (fun W h => ok_pre (H1 := []) (R1 := []) h (fun W hφ => hφ)) (.inr rfl)
noncomputable def m_slices_ContainsFunc_68 (p0 : List GEntry) : Option Bool :=
  (m_slices_IndexFunc_85 p0).bind fun x1 =>
  some (decide (0 ≤ x1))
theorem c_slices_ContainsFunc_68 {w0 : World} {M : Nat → Prop} {H : List (Nat × Nat × Obj)} {R : List (Nat × Row)} {φ : World → Prop} (p0 : List GEntry) (Ap0_0 : Option Addr) (cp0_0 : Nat) (hcp0_0 : p0.length ≤ cp0_0) (fp0_0 : ∀ W, (Sta.mk w0 M H R φ).ok W → Cl W Ap0_0 (p0.flatMap GEntry.enc)) (r : Bool) (hm : m_slices_ContainsFunc_68 p0 = some r) :
    Cn Try.prog 68 #[.slice Ap0_0 p0.length cp0_0, .func (.func 70) #[] #[]] ⟨w0, M, H, R, φ⟩ (fun x : Unit => .bool r) (fun x => True) (fun x => ⟨w0, M, H, R, φ⟩) := by
 unfold m_slices_ContainsFunc_68 at hm
 refine cn_intro (fn := Try.f68) (N := 9) Try.func68 rfl Try.ntmps68 rfl <| c_seq <| c_region <| g_v rfl r_assign <| g_nil <| d_then <| c_seq <| c_region <| g_v rfl r_move <| g_v rfl r_move ?_
 replace hm := bnd hm
 obtain ⟨x1, hx2, hm⟩ := hm
 refine g_cn ⟨w0, M, _, _, φ⟩ (fun _ h => h) Try.call85 rfl rfl (c_slices_IndexFunc_85 p0 Ap0_0 cp0_0 hcp0_0 (fun W hS => fp0_0 W (ok_pre (H1 := []) (R1 := []) hS (fun W h => h))) _ hx2) (fun _ _ => ?_)
 refine g_v rfl (r_geq rfl rfl) <| g_v rfl r_assign <| g_nil <| d_then <| c_ret ?_
 cases hm
 exact d_retC () Try.results68 (res_tmp (res_nil rfl)) trivial (fun W h => ok_pre (H1 := []) (R1 := []) h (fun W hφ => hφ)) (.inr rfl)
noncomputable def m_raft_state_change_j1 (x3 : Bool) (x2 : List Int) (p0 : Graft_state) (i32 : Int) : Option Int :=
  if x3 = true then
    (m_slices_Contains_35 x2 p0.fRaft.fMe).bind fun x34 =>
    if x34 = true then
      if i32 ≠ 1 then
        some 1
      else
        (m_plog_Term p0.fRaft.fHard.fLog p0.fRaft.fCommit).bind fun (z41 : Int × Bool) =>
        (m_plog_Slice p0.fRaft.fHard.fLog (w64 (p0.fRaft.fCommit + 1)) (p0.fRaft.fHard.fLog.fEntries.length : Int)).bind fun x42 =>
        (m_slices_ContainsFunc_68 x42).bind fun x47 =>
        if x47 = true then
          some 13
        else
          if z41.1 ≠ p0.fRaft.fHard.fTerm then
            some 13
          else
            some 0
    else
      some 1
  else
    some 1
noncomputable def m_raft_state_change_s2 (x2 : List Int) (x9 : List Int) (i58 : Int) (i59 : Int) : Option ((Int × Int) ⊕ Int) :=
  if i59 < 64 then
    (m_slices_Contains_35 x2 i59).bind fun x70 =>
    (m_slices_Contains_35 x9 i59).bind fun x72 =>
    if (!(x70 == x72)) = true then
      some (.inl (w64 (i58 + 1), w64 (i59 + 1)))
    else
      some (.inl (i58, w64 (i59 + 1)))
  else
    some (.inr i58)
noncomputable def m_raft_state_change (p0 : Graft_state) (p1 : ByteArray) : Option Int :=
  (m_plog_List p1).bind fun (z8 : (List Int) × Bool) =>
  (m_raft_state_voters p0).bind fun x9 =>
  (loop (fun s => m_raft_state_change_s2 z8.1 x9 s.1 s.2) (0, 0)).bind fun e => m_raft_state_change_j1 z8.2 z8.1 p0 e
theorem c_raft_state_change {w0 : World} {M : Nat → Prop} {H : List (Nat × Nat × Obj)} {R : List (Nat × Row)} {φ : World → Prop} (p0 : Graft_state) (Ap0_0 : Option Addr) (cp0_0 : Nat) (hcp0_0 : p0.fRaft.fHard.fVoters.length ≤ cp0_0) (fp0_0 : ∀ W, (Sta.mk w0 M H R φ).ok W → Cl W Ap0_0 (p0.fRaft.fHard.fVoters.flatMap (fun x : Int => [Value.int .i64 x]))) (Ap0_1 : Option Addr) (cp0_1 : Nat) (hcp0_1 : p0.fRaft.fHard.fLog.fEntries.length ≤ cp0_1) (fp0_1 : ∀ W, (Sta.mk w0 M H R φ).ok W → Cl W Ap0_1 (p0.fRaft.fHard.fLog.fEntries.flatMap GEntry.enc)) (Ap0_2 : Option Addr) (cp0_2 : Nat) (hcp0_2 : p0.fRaft.fVotes.length ≤ cp0_2) (fp0_2 : ∀ W, (Sta.mk w0 M H R φ).ok W → Cl W Ap0_2 (p0.fRaft.fVotes.flatMap (fun x : Int => [Value.int .i64 x]))) (Ap0_3 : Option Addr) (cp0_3 : Nat) (hcp0_3 : p0.fRaft.fMarks.length ≤ cp0_3) (fp0_3 : ∀ W, (Sta.mk w0 M H R φ).ok W → Cl W Ap0_3 (p0.fRaft.fMarks.flatMap GMark.enc)) (p1 : ByteArray) (r : Int) (hm : m_raft_state_change p0 p1 = some r) :
    Cn Try.prog 43 #[.agg #[.int .i64 p0.fRaft.fMe, .int .i64 p0.fRaft.fRole, .int .i64 p0.fRaft.fLeader, .int .i64 p0.fRaft.fCommit, .int .i64 p0.fRaft.fLeft, .int .i64 p0.fRaft.fHard.fTerm, .int .i64 p0.fRaft.fHard.fVote, .slice Ap0_0 p0.fRaft.fHard.fVoters.length cp0_0, .string p0.fRaft.fHard.fSnap, .int .i64 p0.fRaft.fHard.fLog.fBase, .int .i64 p0.fRaft.fHard.fLog.fBaseTerm, .slice Ap0_1 p0.fRaft.fHard.fLog.fEntries.length cp0_1, .slice Ap0_2 p0.fRaft.fVotes.length cp0_2, .slice Ap0_3 p0.fRaft.fMarks.length cp0_3], .string p1] ⟨w0, M, H, R, φ⟩ (fun x : Unit => .int .i64 r) (fun x => True) (fun x => ⟨w0, M, H, R, φ⟩) := by
 unfold m_raft_state_change at hm
 refine cn_intro (fn := Try.f43) (N := 83) Try.func43 rfl Try.ntmps43 rfl <| c_seq <| c_region ?_
 refine g_e rfl (e_box 100020 rfl) (fun g1 _ => ?_)
 refine g_v rfl r_assign <| g_nil <| d_then <| c_seq <| c_region <| g_v rfl r_move ?_
 replace hm := bnd hm
 obtain ⟨⟨x2, x3⟩, hx4, hm⟩ := hm
 refine g_cn ⟨w0, M, _, _, φ⟩ (fun _ h => h) Try.call54 rfl rfl (c_plog_List p1 _ hx4) (fun ⟨A5, c6⟩ hc6 => ?_)
 refine g_sta _ (fun W h => (ok_frontR (t := 2000) (t' := 100150) h rfl)) <| g_v rfl r_move <| g_v rfl (r_extract rfl rfl) <| g_v rfl (r_extract rfl rfl) <| g_v rfl r_assign <| g_v rfl r_assign <| g_nil <| d_then ?_
 refine c_flat [(2, .pointer (some ⟨g1, 0, none⟩)), (5, .slice A5 x2.length c6), (6, .bool x3)] ⟨rfl, rfl, rfl, trivial⟩ (fun u => ?_)
 refine c_sta ⟨w0, M, (100020, g1, .cells #[.int .i64 p0.fRaft.fMe, .int .i64 p0.fRaft.fRole, .int .i64 p0.fRaft.fLeader, .int .i64 p0.fRaft.fCommit, .int .i64 p0.fRaft.fLeft, .int .i64 p0.fRaft.fHard.fTerm, .int .i64 p0.fRaft.fHard.fVote, .slice Ap0_0 p0.fRaft.fHard.fVoters.length cp0_0, .string p0.fRaft.fHard.fSnap, .int .i64 p0.fRaft.fHard.fLog.fBase, .int .i64 p0.fRaft.fHard.fLog.fBaseTerm, .slice Ap0_1 p0.fRaft.fHard.fLog.fEntries.length cp0_1, .slice Ap0_2 p0.fRaft.fVotes.length cp0_2, .slice Ap0_3 p0.fRaft.fMarks.length cp0_3] 84 (0, 0)) :: H, (100150, ⟨.slice A5 x2.length c6, 3, 1, x2.length, x2.flatMap (fun x : Int => [Value.int .i64 x])⟩) :: R, φ⟩ (fun _ h => h) <| c_seq <| c_region <| g_v rfl (r_loadA (tag := 100020) rfl rfl Try.isAgg84 Try.sizeOf84 rfl rfl) ?_
 replace hm := bnd hm
 obtain ⟨x9, hx10, hm⟩ := hm
 refine g_cn ⟨w0, M, _, _, φ⟩ (fun _ h => h) Try.call40 rfl rfl (c_raft_state_voters p0 Ap0_0 cp0_0 hcp0_0 (fun W hS => fp0_0 W (ok_pre (H1 := [_]) (R1 := [_]) hS (fun W h => h))) Ap0_1 cp0_1 hcp0_1 (fun W hS => fp0_1 W (ok_pre (H1 := [_]) (R1 := [_]) hS (fun W h => h))) Ap0_2 cp0_2 hcp0_2 (fun W hS => fp0_2 W (ok_pre (H1 := [_]) (R1 := [_]) hS (fun W h => h))) Ap0_3 cp0_3 hcp0_3 (fun W hS => fp0_3 W (ok_pre (H1 := [_]) (R1 := [_]) hS (fun W h => h))) _ hx10) (fun ⟨A11, c12⟩ hc12 => ?_)
 refine g_sta _ (fun W h => (ok_frontR (t := 2000) (t' := 100190) h rfl)) <| g_v rfl r_assign <| g_nil <| d_then <| c_seq <| c_region <| g_v rfl r_assign <| g_nil <| d_then <| c_seq ?_
 refine c_seq <| c_region <| g_v rfl r_move <| g_nil <| d_then ?_
 refine c_cut (ι := Int) [2, 5, 6, 8] (fun i32 => [(8, .int .i64 i32)]) (fun i32 => ⟨w0, M, (100020, g1, .cells #[.int .i64 p0.fRaft.fMe, .int .i64 p0.fRaft.fRole, .int .i64 p0.fRaft.fLeader, .int .i64 p0.fRaft.fCommit, .int .i64 p0.fRaft.fLeft, .int .i64 p0.fRaft.fHard.fTerm, .int .i64 p0.fRaft.fHard.fVote, .slice Ap0_0 p0.fRaft.fHard.fVoters.length cp0_0, .string p0.fRaft.fHard.fSnap, .int .i64 p0.fRaft.fHard.fLog.fBase, .int .i64 p0.fRaft.fHard.fLog.fBaseTerm, .slice Ap0_1 p0.fRaft.fHard.fLog.fEntries.length cp0_1, .slice Ap0_2 p0.fRaft.fVotes.length cp0_2, .slice Ap0_3 p0.fRaft.fMarks.length cp0_3] 84 (0, 0)) :: H, (100150, ⟨.slice A5 x2.length c6, 3, 1, x2.length, x2.flatMap (fun x : Int => [Value.int .i64 x])⟩) :: R, φ⟩) (fun i32 => m_raft_state_change_j1 x3 x2 p0 i32 = some r) ?_ (fun i32 u hm => ?_)
 ·
  refine c_block ?_
  replace hm := bnd hm
  obtain ⟨out2, hl2, hr2⟩ := hm
  obtain ⟨n68', hl2⟩ := loop_lp hl2
  refine c_loopU (ι := Nat × Int × Int) [2, 5, 6, 7, 8, 20] (fun ⟨n68, i58, i59⟩ => [(8, .int .i64 i58), (20, .int .i64 i59)]) (fun ⟨n68, i58, i59⟩ => ⟨w0, M, (100020, g1, .cells #[.int .i64 p0.fRaft.fMe, .int .i64 p0.fRaft.fRole, .int .i64 p0.fRaft.fLeader, .int .i64 p0.fRaft.fCommit, .int .i64 p0.fRaft.fLeft, .int .i64 p0.fRaft.fHard.fTerm, .int .i64 p0.fRaft.fHard.fVote, .slice Ap0_0 p0.fRaft.fHard.fVoters.length cp0_0, .string p0.fRaft.fHard.fSnap, .int .i64 p0.fRaft.fHard.fLog.fBase, .int .i64 p0.fRaft.fHard.fLog.fBaseTerm, .slice Ap0_1 p0.fRaft.fHard.fLog.fEntries.length cp0_1, .slice Ap0_2 p0.fRaft.fVotes.length cp0_2, .slice Ap0_3 p0.fRaft.fMarks.length cp0_3] 84 (0, 0)) :: H, (100190, ⟨.slice A11 x9.length c12, 3, 1, x9.length, x9.flatMap (fun x : Int => [Value.int .i64 x])⟩) :: (100150, ⟨.slice A5 x2.length c6, 3, 1, x2.length, x2.flatMap (fun x : Int => [Value.int .i64 x])⟩) :: R, φ⟩) (fun ⟨n68, i58, i59⟩ => Lp (fun s => m_raft_state_change_s2 x2 x9 s.1 s.2) n68 (i58, i59) out2) (fun ⟨n68, i58, i59⟩ => n68) (n68', 0, 0) hl2 ⟨rfl, rfl, rfl, rfl, rfl, rfl, trivial⟩ (fun W h => h.phi (fun W hφ => hφ)) (fun ⟨n68, i58, i59⟩ u hlp => ?_)
  obtain ⟨o2, hm, hnx2⟩ := lp_step hlp
  clear hlp
  replace hm : m_raft_state_change_s2 x2 x9 i58 i59 = some o2 := hm
  unfold m_raft_state_change_s2 at hm
  refine c_flat [(2, .pointer (some ⟨g1, 0, none⟩)), (5, .slice A5 x2.length c6), (6, .bool x3), (7, .slice A11 x9.length c12), (8, .int .i64 i58), (20, .int .i64 i59)] ⟨rfl, rfl, rfl, rfl, rfl, rfl, trivial⟩ (fun u => ?_)
  refine c_sta ⟨w0, M, (100020, g1, .cells #[.int .i64 p0.fRaft.fMe, .int .i64 p0.fRaft.fRole, .int .i64 p0.fRaft.fLeader, .int .i64 p0.fRaft.fCommit, .int .i64 p0.fRaft.fLeft, .int .i64 p0.fRaft.fHard.fTerm, .int .i64 p0.fRaft.fHard.fVote, .slice Ap0_0 p0.fRaft.fHard.fVoters.length cp0_0, .string p0.fRaft.fHard.fSnap, .int .i64 p0.fRaft.fHard.fLog.fBase, .int .i64 p0.fRaft.fHard.fLog.fBaseTerm, .slice Ap0_1 p0.fRaft.fHard.fLog.fEntries.length cp0_1, .slice Ap0_2 p0.fRaft.fVotes.length cp0_2, .slice Ap0_3 p0.fRaft.fMarks.length cp0_3] 84 (0, 0)) :: H, (100190, ⟨.slice A11 x9.length c12, 3, 1, x9.length, x9.flatMap (fun x : Int => [Value.int .i64 x])⟩) :: (100150, ⟨.slice A5 x2.length c6, 3, 1, x2.length, x2.flatMap (fun x : Int => [Value.int .i64 x])⟩) :: R, φ⟩ (fun _ h => h) <| c_seq <| c_region <| g_v rfl (r_lss rfl rfl) <| g_nil <| d_then <| c_seq ?_
  refine c_cond rfl (fun h69 => ?_) (fun h69 => ?_)
  ·
   replace hm := ite_t hm (of_decide_eq_true h69)
   refine c_skip <| d_then <| c_seq <| c_block <| c_seq <| c_region <| g_v rfl r_move <| g_v rfl r_assign <| g_nil <| d_then ?_
   refine c_seq <| c_region <| g_v rfl r_move <| g_v rfl r_move ?_
   replace hm := bnd hm
   obtain ⟨x70, hx71, hm⟩ := hm
   refine g_cn ⟨w0, M, _, _, φ⟩ (fun _ h => h) Try.call35 rfl rfl (c_slices_Contains_35 x2 A5 c6 hc6 (fun W hS => rowCl (tag := 100150) rfl W hS) i59 _ hx71) (fun _ _ => ?_)
   refine g_v rfl r_move <| g_v rfl r_move ?_
   replace hm := bnd hm
   obtain ⟨x72, hx73, hm⟩ := hm
   refine g_cn ⟨w0, M, _, _, φ⟩ (fun _ h => h) Try.call35 rfl rfl (c_slices_Contains_35 x9 A11 c12 hc12 (fun W hS => rowCl (tag := 100190) rfl W hS) i59 _ hx73) (fun _ _ => ?_)
   refine g_v rfl (r_neqBo Try.underlying4 rfl rfl) <| g_nil <| d_then ?_
   refine c_flat [(2, .pointer (some ⟨g1, 0, none⟩)), (5, .slice A5 x2.length c6), (6, .bool x3), (7, .slice A11 x9.length c12), (8, .int .i64 i58), (20, .int .i64 i59), (29, .bool (!(x70 == x72)))] ⟨rfl, rfl, rfl, rfl, rfl, rfl, rfl, trivial⟩ (fun u => ?_)
   refine c_cond rfl (fun h74 => ?_) (fun h74 => ?_)
   ·
    replace hm := ite_t hm h74
    refine c_region <| g_v rfl r_move <| g_v rfl (r_add rfl rfl rfl) <| g_v rfl r_assign <| g_nil <| d_normal_block <| d_then <| c_region <| g_v rfl (r_add rfl rfl rfl) <| g_v rfl r_move ?_
    refine g_nil ?_
    obtain ⟨n75, hn75, hlp⟩ := nx_inl hm hnx2
    exact d_round (n75, w64 (i58 + 1), w64 (i59 + 1)) hlp hn75 ⟨rfl, rfl, rfl, rfl, rfl, rfl, trivial⟩ (fun W h => h.phi (fun W hφ => hφ))
   replace hm := ite_f hm (bool_nt h74)
   refine c_skip <| d_normal_block <| d_then <| c_region <| g_v rfl (r_add rfl rfl rfl) <| g_v rfl r_move <| g_nil ?_
   obtain ⟨n76, hn76, hlp⟩ := nx_inl hm hnx2
   exact d_round (n76, i58, w64 (i59 + 1)) hlp hn76 ⟨rfl, rfl, rfl, rfl, rfl, rfl, trivial⟩ (fun W h => h.phi (fun W hφ => hφ))
  replace hm := ite_f hm (of_decide_eq_false h69)
  refine c_exit <| d_exit_then <| d_exit_then <| d_exit_block ?_
  replace hm := nx_out (C := (fun e : Int => m_raft_state_change_j1 x3 x2 p0 e = some r)) hm hnx2 hr2
  exact d_round i58 hm Nat.zero_lt_one ⟨rfl, rfl, rfl, rfl, trivial⟩ (fun W h => (h.dropR (t := 100190) rfl).phi (fun W hφ => hφ))
 unfold m_raft_state_change_j1 at hm
 refine d_flat [(2, .pointer (some ⟨g1, 0, none⟩)), (5, .slice A5 x2.length c6), (6, .bool x3), (8, .int .i64 i32)] ⟨rfl, rfl, rfl, rfl, trivial⟩ (fun u => ?_)
 refine d_then <| c_seq <| c_seq <| c_region <| g_v rfl r_move <| g_v rfl (r_not rfl) <| g_v rfl r_move ?_
 refine g_if rfl rfl rfl rfl rfl (fun h33 => ?_) (fun h33 => ?_)
 ·
  have h33' : x3 = true := by revert h33; cases x3 <;> simp
  replace hm := ite_t hm h33'
  refine g_v rfl r_move <| g_do rfl rfl rfl rfl rfl h33 <| g_v rfl (r_field (n := 0) Try.underlying84 rfl Try.sizeOf43 rfl rfl) <| g_do rfl rfl rfl rfl rfl h33 <| g_v rfl (r_field (n := 0) Try.underlying43 rfl Try.sizeOf3 rfl rfl) <| g_do rfl rfl rfl rfl rfl h33 <| g_v rfl (r_load (tag := 100020) rfl rfl rfl Try.isAgg3) <| g_do rfl rfl rfl rfl rfl h33 ?_
  replace hm := bnd hm
  obtain ⟨x34, hx35, hm⟩ := hm
  refine g_cn ⟨w0, M, _, _, φ⟩ (fun _ h => h) Try.call35 rfl rfl (c_slices_Contains_35 x2 A5 c6 hc6 (fun W hS => rowCl (tag := 100150) rfl W hS) p0.fRaft.fMe _ hx35) (fun _ _ => ?_)
  refine g_do rfl rfl rfl rfl rfl h33 <| g_v rfl (r_not rfl) <| g_v rfl (r_pick0 rfl h33) <| g_v rfl r_move ?_
  refine g_if rfl rfl rfl rfl rfl (fun h36 => ?_) (fun h36 => ?_)
  ·
   have h36' : x34 = true := by revert h36; cases x34 <;> simp
   replace hm := ite_t hm h36'
   refine g_v rfl r_move <| g_do rfl rfl rfl rfl rfl h36 <| g_v rfl (r_neq rfl rfl) <| g_v rfl (r_pick0 rfl h36) <| g_nil <| d_then ?_
   refine c_flat [(2, .pointer (some ⟨g1, 0, none⟩)), (46, .bool (decide (i32 ≠ 1)))] ⟨rfl, rfl, trivial⟩ (fun u => ?_)
   refine c_cond rfl (fun h37 => ?_) (fun h37 => ?_)
   ·
    replace hm := ite_t hm (of_decide_eq_true h37)
    refine c_seq <| c_region <| g_v rfl r_assign <| g_nil <| d_then <| c_ret <| d_ret_then ?_
    cases hm
    exact d_retC () Try.results43 (res_tmp (res_nil rfl)) trivial (fun W h => ok_pre (H1 := [_]) (R1 := [_]) h (fun W hφ => hφ)) (.inr rfl)
   replace hm := ite_f hm (of_decide_eq_false h37)
   refine c_skip <| d_then <| c_seq <| c_region <| g_v rfl (r_field (n := 0) Try.underlying84 rfl Try.sizeOf43 rfl rfl) <| g_v rfl (r_field (n := 5) Try.underlying43 rfl Try.sizeOf40 rfl rfl) <| g_v rfl (r_field (n := 9) Try.underlying40 rfl Try.sizeOf38 rfl rfl) <| g_v rfl (r_loadA (tag := 100020) rfl rfl Try.isAgg38 Try.sizeOf38 rfl rfl) <| g_v rfl (r_field (n := 0) Try.underlying84 rfl Try.sizeOf43 rfl rfl) <| g_v rfl (r_field (n := 3) Try.underlying43 rfl Try.sizeOf3 rfl rfl) ?_
   refine g_v rfl (r_load (tag := 100020) rfl rfl rfl Try.isAgg3) ?_
   replace hm := bnd hm
   obtain ⟨⟨x38, x39⟩, hx40, hm⟩ := hm
   refine g_cn ⟨w0, M, _, _, φ⟩ (fun _ h => h) Try.call67 rfl rfl (c_plog_Term p0.fRaft.fHard.fLog Ap0_1 cp0_1 hcp0_1 (fun W hS => fp0_1 W (ok_pre (H1 := [_]) (R1 := [_]) hS (fun W h => h))) p0.fRaft.fCommit _ hx40) (fun _ _ => ?_)
   refine g_v rfl r_move <| g_v rfl (r_extract rfl rfl) <| g_v rfl (r_extract rfl rfl) <| g_v rfl r_assign <| g_v rfl r_assign <| g_nil <| d_then ?_
   refine c_flat [(2, .pointer (some ⟨g1, 0, none⟩)), (10, .int .i64 x38)] ⟨rfl, rfl, trivial⟩ (fun u => ?_)
   refine c_seq <| c_region <| g_v rfl (r_field (n := 0) Try.underlying84 rfl Try.sizeOf43 rfl rfl) <| g_v rfl (r_field (n := 5) Try.underlying43 rfl Try.sizeOf40 rfl rfl) <| g_v rfl (r_field (n := 9) Try.underlying40 rfl Try.sizeOf38 rfl rfl) <| g_v rfl (r_loadA (tag := 100020) rfl rfl Try.isAgg38 Try.sizeOf38 rfl rfl) <| g_v rfl (r_field (n := 0) Try.underlying84 rfl Try.sizeOf43 rfl rfl) <| g_v rfl (r_field (n := 3) Try.underlying43 rfl Try.sizeOf3 rfl rfl) <| g_v rfl (r_load (tag := 100020) rfl rfl rfl Try.isAgg3) <| g_v rfl (r_add rfl rfl rfl) ?_
   refine g_v rfl (r_field (n := 0) Try.underlying84 rfl Try.sizeOf43 rfl rfl) <| g_v rfl (r_field (n := 5) Try.underlying43 rfl Try.sizeOf40 rfl rfl) <| g_v rfl (r_field (n := 9) Try.underlying40 rfl Try.sizeOf38 rfl rfl) <| g_v rfl (r_field (n := 11) Try.underlying38 rfl Try.sizeOf22 rfl rfl) <| g_v rfl (r_load (tag := 100020) rfl rfl rfl Try.isAgg22) <| g_v rfl (r_lenL Try.underlying22 rfl) ?_
   replace hm := bnd hm
   obtain ⟨x42, hx43, hm⟩ := hm
   refine g_cn ⟨w0, M, _, _, φ⟩ (fun _ h => h) Try.call69 rfl rfl (c_plog_Slice p0.fRaft.fHard.fLog Ap0_1 cp0_1 hcp0_1 (fun W hS => fp0_1 W (ok_pre (H1 := [_]) (R1 := [_]) hS (fun W h => h))) (w64 (p0.fRaft.fCommit + 1)) (p0.fRaft.fHard.fLog.fEntries.length : Int) _ hx43) (fun ⟨A44, c45⟩ hc45 => ?_)
   refine g_sta _ (fun W h => (ok_frontR (t := 2000) (t' := 100720) h rfl)) ?_
   replace hm := bnd hm
   obtain ⟨x47, hx48, hm⟩ := hm
   refine g_cn ⟨w0, M, _, _, φ⟩ (fun _ h => h) Try.call68 rfl rfl (c_slices_ContainsFunc_68 x42 A44 c45 hc45 (fun W hS => rowCl (tag := 100720) rfl W hS) _ hx48) (fun _ _ => ?_)
   refine g_v rfl r_assign <| g_nil <| d_then ?_
   refine c_flat [(2, .pointer (some ⟨g1, 0, none⟩)), (10, .int .i64 x38), (12, .bool x47)] ⟨rfl, rfl, rfl, trivial⟩ (fun u => ?_)
   refine c_sta ⟨w0, M, (100020, g1, .cells #[.int .i64 p0.fRaft.fMe, .int .i64 p0.fRaft.fRole, .int .i64 p0.fRaft.fLeader, .int .i64 p0.fRaft.fCommit, .int .i64 p0.fRaft.fLeft, .int .i64 p0.fRaft.fHard.fTerm, .int .i64 p0.fRaft.fHard.fVote, .slice Ap0_0 p0.fRaft.fHard.fVoters.length cp0_0, .string p0.fRaft.fHard.fSnap, .int .i64 p0.fRaft.fHard.fLog.fBase, .int .i64 p0.fRaft.fHard.fLog.fBaseTerm, .slice Ap0_1 p0.fRaft.fHard.fLog.fEntries.length cp0_1, .slice Ap0_2 p0.fRaft.fVotes.length cp0_2, .slice Ap0_3 p0.fRaft.fMarks.length cp0_3] 84 (0, 0)) :: H, (100720, ⟨.slice A44 x42.length c45, 36, 3, x42.length, x42.flatMap GEntry.enc⟩) :: (100150, ⟨.slice A5 x2.length c6, 3, 1, x2.length, x2.flatMap (fun x : Int => [Value.int .i64 x])⟩) :: R, φ⟩ (fun _ h => h) <| c_seq <| c_seq <| c_region <| g_v rfl r_move <| g_v rfl r_move ?_
   refine g_if rfl rfl rfl rfl rfl (fun h49 => ?_) (fun h49 => ?_)
   ·
    replace hm := ite_f hm (bool_nt h49)
    refine g_v rfl r_move <| g_do rfl rfl rfl rfl rfl h49 <| g_v rfl (r_field (n := 0) Try.underlying84 rfl Try.sizeOf43 rfl rfl) <| g_do rfl rfl rfl rfl rfl h49 <| g_v rfl (r_field (n := 5) Try.underlying43 rfl Try.sizeOf40 rfl rfl) <| g_do rfl rfl rfl rfl rfl h49 <| g_v rfl (r_field (n := 5) Try.underlying40 rfl Try.sizeOf3 rfl rfl) <| g_do rfl rfl rfl rfl rfl h49 <| g_v rfl (r_load (tag := 100020) rfl rfl rfl Try.isAgg3) <| g_do rfl rfl rfl rfl rfl h49 ?_
    refine g_v rfl (r_neq rfl rfl) <| g_v rfl (r_pick0 rfl h49) <| g_nil <| d_then ?_
    refine c_flat [(82, .bool (decide (x38 ≠ p0.fRaft.fHard.fTerm)))] ⟨rfl, trivial⟩ (fun u => ?_)
    refine c_cond rfl (fun h50 => ?_) (fun h50 => ?_)
    ·
     replace hm := ite_t hm (of_decide_eq_true h50)
     refine c_seq <| c_region <| g_v rfl r_assign <| g_nil <| d_then <| c_ret <| d_ret_then ?_
     cases hm
     exact d_retC () Try.results43 (res_tmp (res_nil rfl)) trivial (fun W h => ok_pre (H1 := [_]) (R1 := [_, _]) h (fun W hφ => hφ)) (.inr rfl)
    replace hm := ite_f hm (of_decide_eq_false h50)
    refine c_skip <| d_then <| c_seq <| c_region <| g_v rfl r_assign <| g_nil <| d_then <| c_ret ?_
    cases hm
    exact d_retC () Try.results43 (res_tmp (res_nil rfl)) trivial (fun W h => ok_pre (H1 := [_]) (R1 := [_, _]) h (fun W hφ => hφ)) (.inr rfl)
   replace hm := ite_t hm h49
   iterate 5 refine g_no rfl rfl rfl rfl rfl h49 ?_
   refine g_v rfl (r_pick1 rfl h49) <| g_nil <| d_then <| c_cond1 rfl rfl <| c_seq <| c_region <| g_v rfl r_assign <| g_nil <| d_then <| c_ret ?_
   refine d_ret_then ?_
   cases hm
   exact d_retC () Try.results43 (res_tmp (res_nil rfl)) trivial (fun W h => ok_pre (H1 := [_]) (R1 := [_, _]) h (fun W hφ => hφ)) (.inr rfl)
  have h36' : x34 = false := by revert h36; cases x34 <;> simp
  replace hm := ite_f hm (bool_nt h36')
  refine g_no rfl rfl rfl rfl rfl h36 <| g_v rfl (r_pick1 rfl h36) <| g_nil <| d_then ?_
  refine c_flat [(2, .pointer (some ⟨g1, 0, none⟩)), (46, .bool true)] ⟨rfl, rfl, trivial⟩ (fun u => ?_)
  refine c_cond1 rfl rfl <| c_seq <| c_region <| g_v rfl r_assign <| g_nil <| d_then <| c_ret <| d_ret_then ?_
  cases hm
  exact d_retC () Try.results43 (res_tmp (res_nil rfl)) trivial (fun W h => ok_pre (H1 := [_]) (R1 := [_]) h (fun W hφ => hφ)) (.inr rfl)
 have h33' : x3 = false := by revert h33; cases x3 <;> simp
 replace hm := ite_f hm (bool_nt h33')
 iterate 5 refine g_no rfl rfl rfl rfl rfl h33 ?_
 refine g_v rfl (r_pick1 rfl h33) <| g_v rfl r_move <| g_no rfl rfl rfl rfl rfl rfl <| g_no rfl rfl rfl rfl rfl rfl <| g_v rfl (r_pick1 rfl rfl) <| g_nil <| d_then <| c_cond1 rfl rfl <| c_seq <| c_region ?_
 refine g_v rfl r_assign <| g_nil <| d_then <| c_ret <| d_ret_then ?_
 cases hm
 exact d_retC () Try.results43 (res_tmp (res_nil rfl)) trivial (fun W h => ok_pre (H1 := [_]) (R1 := [_]) h (fun W hφ => hφ)) (.inr rfl)
theorem bld36_25 (z0 : Int) (z1 : Int) (z2 : ByteArray) : ∀ W, (Instr.build 36 #[(0, .int .i64 z0), (1, .int .i64 z1), (2, .string z2)]).run Try.prog W = .ok (.agg #[.int .i64 z0, .int .i64 z1, .string z2]) W := fun _ => by kernel_rfl
noncomputable def m_raft_Propose_j3 (p0 : GRaft) (x20 : GLog) (x4 : Int) (l32 : List GMark) : Option (GRaft × (List GNote) × Int × Int) :=
  (m_raft_state_commit (⟨(⟨p0.fMe, p0.fRole, p0.fLeader, p0.fCommit, p0.fLeft, (⟨p0.fHard.fTerm, p0.fHard.fVote, p0.fHard.fVoters, p0.fHard.fSnap, x20⟩ : GHard), p0.fVotes, l32⟩ : GRaft)⟩ : Graft_state)).bind fun x37 =>
  (m_raft_state_all x37).bind fun x68 =>
  some (x37.fRaft, x68, w64 (x4 + 1), 0)
noncomputable def m_raft_Propose_j2 (p0 : GRaft) (p1 : Int) (p2 : ByteArray) (x4 : Int) : Option (GRaft × (List GNote) × Int × Int) :=
  (m_plog_Add p0.fHard.fLog [(⟨p0.fHard.fTerm, p1, p2⟩ : GEntry)]).bind fun x20 =>
  if p1 = 1 then
    (m_raft_state_marks (⟨(⟨p0.fMe, p0.fRole, p0.fLeader, p0.fCommit, p0.fLeft, (⟨p0.fHard.fTerm, p0.fHard.fVote, p0.fHard.fVoters, p0.fHard.fSnap, x20⟩ : GHard), p0.fVotes, p0.fMarks⟩ : GRaft)⟩ : Graft_state) (w64 (x4 + 1))).bind fun x77 =>
    m_raft_Propose_j3 p0 x20 x4 x77
  else
    m_raft_Propose_j3 p0 x20 x4 p0.fMarks
noncomputable def m_raft_Propose_j1 (p1 : Int) (p0 : GRaft) (p2 : ByteArray) (x4 : Int) : Option (GRaft × (List GNote) × Int × Int) :=
  if p1 = 1 then
    (m_raft_state_change (⟨p0⟩ : Graft_state) p2).bind fun x85 =>
    if x85 ≠ 0 then
      some (p0, ([] : List GNote), 0, x85)
    else
      m_raft_Propose_j2 p0 p1 p2 x4
  else
    m_raft_Propose_j2 p0 p1 p2 x4
noncomputable def m_raft_Propose (p0 : GRaft) (p1 : Int) (p2 : ByteArray) : Option (GRaft × (List GNote) × Int × Int) :=
  (m_raft_state_last (⟨p0⟩ : Graft_state)).bind fun (z7 : Int × Int) =>
  if p0.fRole ≠ 2 then
    some (p0, ([] : List GNote), 0, 17)
  else
    if 8000 < (p2.size : Int) then
      some (p0, ([] : List GNote), 0, 11)
    else
      if 1099511627776 ≤ z7.1 then
        some (p0, ([] : List GNote), 0, 11)
      else
        if p1 ≠ 0 then
          if p1 ≠ 1 then
            some (p0, ([] : List GNote), 0, 1)
          else
            m_raft_Propose_j1 p1 p0 p2 z7.1
        else
          m_raft_Propose_j1 p1 p0 p2 z7.1
theorem c_raft_Propose {w0 : World} {M : Nat → Prop} {H : List (Nat × Nat × Obj)} {R : List (Nat × Row)} {φ : World → Prop} (p0 : GRaft) (Ap0_0 : Option Addr) (cp0_0 : Nat) (hcp0_0 : p0.fHard.fVoters.length ≤ cp0_0) (fp0_0 : ∀ W, φ W → Cl W Ap0_0 (p0.fHard.fVoters.flatMap (fun x : Int => [Value.int .i64 x]))) (Ap0_1 : Option Addr) (cp0_1 : Nat) (hcp0_1 : p0.fHard.fLog.fEntries.length ≤ cp0_1) (fp0_1 : ∀ W, φ W → Cl W Ap0_1 (p0.fHard.fLog.fEntries.flatMap GEntry.enc)) (Ap0_2 : Option Addr) (cp0_2 : Nat) (hcp0_2 : p0.fVotes.length ≤ cp0_2) (fp0_2 : ∀ W, φ W → Cl W Ap0_2 (p0.fVotes.flatMap (fun x : Int => [Value.int .i64 x]))) (Ap0_3 : Option Addr) (cp0_3 : Nat) (hcp0_3 : p0.fMarks.length ≤ cp0_3) (fp0_3 : ∀ W, φ W → Cl W Ap0_3 (p0.fMarks.flatMap GMark.enc)) (p1 : Int) (p2 : ByteArray) (r : GRaft × (List GNote) × Int × Int) (hm : m_raft_Propose p0 p1 p2 = some r) :
    Cn Try.prog 19 #[.agg #[.int .i64 p0.fMe, .int .i64 p0.fRole, .int .i64 p0.fLeader, .int .i64 p0.fCommit, .int .i64 p0.fLeft, .int .i64 p0.fHard.fTerm, .int .i64 p0.fHard.fVote, .slice Ap0_0 p0.fHard.fVoters.length cp0_0, .string p0.fHard.fSnap, .int .i64 p0.fHard.fLog.fBase, .int .i64 p0.fHard.fLog.fBaseTerm, .slice Ap0_1 p0.fHard.fLog.fEntries.length cp0_1, .slice Ap0_2 p0.fVotes.length cp0_2, .slice Ap0_3 p0.fMarks.length cp0_3], .int .i64 p1, .string p2] ⟨w0, M, H, R, φ⟩ (fun x : Option Addr × Nat × Option Addr × Nat × Option Addr × Nat × Option Addr × Nat × Option Addr × Nat × List GNoteP => .tuple #[.agg #[.int .i64 r.1.fMe, .int .i64 r.1.fRole, .int .i64 r.1.fLeader, .int .i64 r.1.fCommit, .int .i64 r.1.fLeft, .int .i64 r.1.fHard.fTerm, .int .i64 r.1.fHard.fVote, .slice x.1 r.1.fHard.fVoters.length x.2.1, .string r.1.fHard.fSnap, .int .i64 r.1.fHard.fLog.fBase, .int .i64 r.1.fHard.fLog.fBaseTerm, .slice x.2.2.1 r.1.fHard.fLog.fEntries.length x.2.2.2.1, .slice x.2.2.2.2.1 r.1.fVotes.length x.2.2.2.2.2.1, .slice x.2.2.2.2.2.2.1 r.1.fMarks.length x.2.2.2.2.2.2.2.1], .slice x.2.2.2.2.2.2.2.2.1 r.2.1.length x.2.2.2.2.2.2.2.2.2.1, .int .i64 r.2.2.1, .int .i64 r.2.2.2]) (fun x => r.1.fHard.fVoters.length ≤ x.2.1 ∧ r.1.fHard.fLog.fEntries.length ≤ x.2.2.2.1 ∧ r.1.fVotes.length ≤ x.2.2.2.2.2.1 ∧ r.1.fMarks.length ≤ x.2.2.2.2.2.2.2.1 ∧ (DOk GNote.capP r.2.1 x.2.2.2.2.2.2.2.2.2.2 ∧ r.2.1.length ≤ x.2.2.2.2.2.2.2.2.2.1)) (fun x => ⟨w0, M, H, (2004, ⟨.slice x.2.2.2.2.2.2.2.2.1 r.2.1.length x.2.2.2.2.2.2.2.2.2.1, 25, 11, r.2.1.length, (r.2.1.zip x.2.2.2.2.2.2.2.2.2.2).flatMap GNote.encP⟩) :: R, fun W => φ W ∧ Cl W x.1 (r.1.fHard.fVoters.flatMap (fun x : Int => [Value.int .i64 x])) ∧ Cl W x.2.2.1 (r.1.fHard.fLog.fEntries.flatMap GEntry.enc) ∧ Cl W x.2.2.2.2.1 (r.1.fVotes.flatMap (fun x : Int => [Value.int .i64 x])) ∧ Cl W x.2.2.2.2.2.2.1 (r.1.fMarks.flatMap GMark.enc) ∧ DOwn GNote.ownP r.2.1 x.2.2.2.2.2.2.2.2.2.2 W⟩) := by
 unfold m_raft_Propose at hm
 refine cn_intro (fn := Try.f19) (N := 85) Try.func19 rfl Try.ntmps19 rfl <| c_seq <| c_region ?_
 refine g_e rfl (e_box 100030 rfl) (fun g1 _ => ?_)
 refine g_e rfl (e_alloc 100060 Try.zeroValue43) (fun g2 _ => ?_)
 iterate 3 refine g_v rfl r_assign ?_
 refine g_nil <| d_then <| c_seq <| c_region <| g_v rfl (r_loadA (tag := 100030) rfl rfl Try.isAgg43 Try.sizeOf43 rfl rfl) <| g_v rfl (r_build _ rfl (bld84_3 _ _ _ _ _ _ _ _ _ _ _ _ _ _ _ _ _ _ _ _ _ _)) ?_
 refine g_e rfl (e_alloc 100100 Try.zeroValue84) (fun g3 _ => ?_)
 refine g_storeL (tag := 100100) rfl rfl rfl rfl Try.sizeOf84 rfl rfl <| g_nil <| d_then ?_
 refine c_flat [(1, .int .i64 p1), (2, .string p2), (3, .pointer (some ⟨g1, 0, none⟩)), (6, .pointer (some ⟨g2, 0, none⟩)), (10, .pointer (some ⟨g3, 0, none⟩))] ⟨rfl, rfl, rfl, rfl, rfl, trivial⟩ (fun u => ?_)
 refine c_sta ⟨w0, M, (100100, g3, .cells #[.int .i64 p0.fMe, .int .i64 p0.fRole, .int .i64 p0.fLeader, .int .i64 p0.fCommit, .int .i64 p0.fLeft, .int .i64 p0.fHard.fTerm, .int .i64 p0.fHard.fVote, .slice Ap0_0 p0.fHard.fVoters.length cp0_0, .string p0.fHard.fSnap, .int .i64 p0.fHard.fLog.fBase, .int .i64 p0.fHard.fLog.fBaseTerm, .slice Ap0_1 p0.fHard.fLog.fEntries.length cp0_1, .slice Ap0_2 p0.fVotes.length cp0_2, .slice Ap0_3 p0.fMarks.length cp0_3] 84 (0, 0)) :: (100060, g2, .cells #[.int .i64 0, .int .i64 0, .int .i64 0, .int .i64 0, .int .i64 0, .int .i64 0, .int .i64 0, .slice none 0 0, .string (⟨#[]⟩ : ByteArray), .int .i64 0, .int .i64 0, .slice none 0 0, .slice none 0 0, .slice none 0 0] 43 (0, 0)) :: (100030, g1, .cells #[.int .i64 p0.fMe, .int .i64 p0.fRole, .int .i64 p0.fLeader, .int .i64 p0.fCommit, .int .i64 p0.fLeft, .int .i64 p0.fHard.fTerm, .int .i64 p0.fHard.fVote, .slice Ap0_0 p0.fHard.fVoters.length cp0_0, .string p0.fHard.fSnap, .int .i64 p0.fHard.fLog.fBase, .int .i64 p0.fHard.fLog.fBaseTerm, .slice Ap0_1 p0.fHard.fLog.fEntries.length cp0_1, .slice Ap0_2 p0.fVotes.length cp0_2, .slice Ap0_3 p0.fMarks.length cp0_3] 43 (0, 0)) :: H, R, φ⟩ (fun _ h => h) <| c_seq <| c_region <| g_v rfl (r_loadA (tag := 100100) rfl rfl Try.isAgg84 Try.sizeOf84 rfl rfl) ?_
 replace hm := bnd hm
 obtain ⟨⟨x4, x5⟩, hx6, hm⟩ := hm
 refine g_cn ⟨w0, M, _, _, φ⟩ (fun _ h => h) Try.call42 rfl rfl (c_raft_state_last (⟨p0⟩ : Graft_state) Ap0_0 cp0_0 hcp0_0 (fun W hS => fp0_0 W hS.now) Ap0_1 cp0_1 hcp0_1 (fun W hS => fp0_1 W hS.now) Ap0_2 cp0_2 hcp0_2 (fun W hS => fp0_2 W hS.now) Ap0_3 cp0_3 hcp0_3 (fun W hS => fp0_3 W hS.now) _ hx6) (fun _ _ => ?_)
 refine g_v rfl r_move <| g_v rfl (r_extract rfl rfl) <| g_v rfl (r_extract rfl rfl) <| g_v rfl r_assign <| g_v rfl r_assign <| g_nil <| d_then <| c_seq ?_
 refine c_cut (ι := Unit) [1, 2, 3, 6, 10, 11] (fun _ => []) (fun _ => ⟨w0, M, (100100, g3, .cells #[.int .i64 p0.fMe, .int .i64 p0.fRole, .int .i64 p0.fLeader, .int .i64 p0.fCommit, .int .i64 p0.fLeft, .int .i64 p0.fHard.fTerm, .int .i64 p0.fHard.fVote, .slice Ap0_0 p0.fHard.fVoters.length cp0_0, .string p0.fHard.fSnap, .int .i64 p0.fHard.fLog.fBase, .int .i64 p0.fHard.fLog.fBaseTerm, .slice Ap0_1 p0.fHard.fLog.fEntries.length cp0_1, .slice Ap0_2 p0.fVotes.length cp0_2, .slice Ap0_3 p0.fMarks.length cp0_3] 84 (0, 0)) :: (100060, g2, .cells #[.int .i64 0, .int .i64 0, .int .i64 0, .int .i64 0, .int .i64 0, .int .i64 0, .int .i64 0, .slice none 0 0, .string (⟨#[]⟩ : ByteArray), .int .i64 0, .int .i64 0, .slice none 0 0, .slice none 0 0, .slice none 0 0] 43 (0, 0)) :: (100030, g1, .cells #[.int .i64 p0.fMe, .int .i64 p0.fRole, .int .i64 p0.fLeader, .int .i64 p0.fCommit, .int .i64 p0.fLeft, .int .i64 p0.fHard.fTerm, .int .i64 p0.fHard.fVote, .slice Ap0_0 p0.fHard.fVoters.length cp0_0, .string p0.fHard.fSnap, .int .i64 p0.fHard.fLog.fBase, .int .i64 p0.fHard.fLog.fBaseTerm, .slice Ap0_1 p0.fHard.fLog.fEntries.length cp0_1, .slice Ap0_2 p0.fVotes.length cp0_2, .slice Ap0_3 p0.fMarks.length cp0_3] 43 (0, 0)) :: H, R, φ⟩) (fun _ => m_raft_Propose_j1 p1 p0 p2 x4 = some r) ?_ (fun _ u hm => ?_)
 ·
  refine c_block <| c_seq <| c_region <| g_v rfl (r_field (n := 0) Try.underlying84 rfl Try.sizeOf43 rfl rfl) <| g_v rfl (r_field (n := 1) Try.underlying43 rfl Try.sizeOf3 rfl rfl) <| g_v rfl (r_load (tag := 100100) rfl rfl rfl Try.isAgg3) <| g_v rfl (r_neq rfl rfl) <| g_v rfl r_assign <| g_nil <| d_then ?_
  refine c_flat [(1, .int .i64 p1), (2, .string p2), (3, .pointer (some ⟨g1, 0, none⟩)), (6, .pointer (some ⟨g2, 0, none⟩)), (10, .pointer (some ⟨g3, 0, none⟩)), (11, .int .i64 x4), (21, .bool (decide (p0.fRole ≠ 2)))] ⟨rfl, rfl, rfl, rfl, rfl, rfl, rfl, trivial⟩ (fun u => ?_)
  refine c_cond rfl (fun h88 => ?_) (fun h88 => ?_)
  ·
   replace hm := ite_t hm (of_decide_eq_true h88)
   refine c_seq <| c_region <| g_v rfl (r_loadA (tag := 100030) rfl rfl Try.isAgg43 Try.sizeOf43 rfl rfl) <| g_storeL (tag := 100060) rfl rfl rfl rfl Try.sizeOf43 rfl rfl ?_
   iterate 3 refine g_v rfl r_assign ?_
   refine g_nil <| d_then <| c_ret <| d_ret_block <| d_ret_then <| d_ret_then ?_
   cases hm
   refine d_sta _ (fun W h => nilR h 17 25 11) <| d_sta _ (fun W h => ok_frontR (t := 17) (t' := 2004) h rfl) ?_
   exact d_retC (Ap0_0, cp0_0, Ap0_1, cp0_1, Ap0_2, cp0_2, Ap0_3, cp0_3, none, 0, ([] : List GNoteP)) Try.results19 (res_agg (tag := 100060) rfl rfl Try.isAgg43 Try.sizeOf43 (res_tmp (res_tmp (res_tmp (res_nil rfl))))) ⟨hcp0_0, hcp0_1, hcp0_2, hcp0_3, ⟨DOk.nil, (Nat.le_refl 0)⟩⟩ (fun W h => (((h.dropH (t := 100100) rfl).dropH (t := 100060) rfl).dropH (t := 100030) rfl).phi (fun W hφ => ⟨hφ, (fun W h => fp0_0 W h) W hφ, (fun W h => fp0_1 W h) W hφ, (fun W h => fp0_2 W h) W hφ, (fun W h => fp0_3 W h) W hφ, (fun W h => DOwn.nil) W hφ⟩)) (.inr rfl)
  replace hm := ite_f hm (of_decide_eq_false h88)
  refine c_seq <| c_region <| g_v rfl r_move <| g_v rfl (r_len Try.underlying9 rfl) <| g_v rfl (r_gtr rfl rfl) <| g_v rfl r_move ?_
  refine g_if rfl rfl rfl rfl rfl (fun h89 => ?_) (fun h89 => ?_)
  ·
   replace hm := ite_f hm (of_decide_eq_false h89)
   refine g_v rfl r_move <| g_do rfl rfl rfl rfl rfl h89 <| g_v rfl (r_geq rfl rfl) <| g_v rfl (r_pick0 rfl h89) <| g_v rfl r_assign <| g_nil <| d_then ?_
   refine c_cond rfl (fun h90 => ?_) (fun h90 => ?_)
   ·
    replace hm := ite_t hm (of_decide_eq_true h90)
    refine c_seq <| c_region <| g_v rfl (r_loadA (tag := 100030) rfl rfl Try.isAgg43 Try.sizeOf43 rfl rfl) <| g_storeL (tag := 100060) rfl rfl rfl rfl Try.sizeOf43 rfl rfl ?_
    iterate 3 refine g_v rfl r_assign ?_
    refine g_nil <| d_then ?_
    refine c_flat [(6, .pointer (some ⟨g2, 0, none⟩)), (7, .slice none 0 0), (8, .int .i64 0), (9, .int .i64 11)] ⟨rfl, rfl, rfl, rfl, trivial⟩ (fun u => ?_)
    refine c_sta ⟨w0, M, (100100, g3, .cells #[.int .i64 p0.fMe, .int .i64 p0.fRole, .int .i64 p0.fLeader, .int .i64 p0.fCommit, .int .i64 p0.fLeft, .int .i64 p0.fHard.fTerm, .int .i64 p0.fHard.fVote, .slice Ap0_0 p0.fHard.fVoters.length cp0_0, .string p0.fHard.fSnap, .int .i64 p0.fHard.fLog.fBase, .int .i64 p0.fHard.fLog.fBaseTerm, .slice Ap0_1 p0.fHard.fLog.fEntries.length cp0_1, .slice Ap0_2 p0.fVotes.length cp0_2, .slice Ap0_3 p0.fMarks.length cp0_3] 84 (0, 0)) :: (100060, g2, .cells #[.int .i64 p0.fMe, .int .i64 p0.fRole, .int .i64 p0.fLeader, .int .i64 p0.fCommit, .int .i64 p0.fLeft, .int .i64 p0.fHard.fTerm, .int .i64 p0.fHard.fVote, .slice Ap0_0 p0.fHard.fVoters.length cp0_0, .string p0.fHard.fSnap, .int .i64 p0.fHard.fLog.fBase, .int .i64 p0.fHard.fLog.fBaseTerm, .slice Ap0_1 p0.fHard.fLog.fEntries.length cp0_1, .slice Ap0_2 p0.fVotes.length cp0_2, .slice Ap0_3 p0.fMarks.length cp0_3] 43 (0, 0)) :: (100030, g1, .cells #[.int .i64 p0.fMe, .int .i64 p0.fRole, .int .i64 p0.fLeader, .int .i64 p0.fCommit, .int .i64 p0.fLeft, .int .i64 p0.fHard.fTerm, .int .i64 p0.fHard.fVote, .slice Ap0_0 p0.fHard.fVoters.length cp0_0, .string p0.fHard.fSnap, .int .i64 p0.fHard.fLog.fBase, .int .i64 p0.fHard.fLog.fBaseTerm, .slice Ap0_1 p0.fHard.fLog.fEntries.length cp0_1, .slice Ap0_2 p0.fVotes.length cp0_2, .slice Ap0_3 p0.fMarks.length cp0_3] 43 (0, 0)) :: H, R, φ⟩ (fun _ h => h) <| c_ret <| d_ret_block <| d_ret_then <| d_ret_then ?_
    cases hm
    refine d_sta _ (fun W h => nilR h 18 25 11) <| d_sta _ (fun W h => ok_frontR (t := 18) (t' := 2004) h rfl) ?_
    exact d_retC (Ap0_0, cp0_0, Ap0_1, cp0_1, Ap0_2, cp0_2, Ap0_3, cp0_3, none, 0, ([] : List GNoteP)) Try.results19 (res_agg (tag := 100060) rfl rfl Try.isAgg43 Try.sizeOf43 (res_tmp (res_tmp (res_tmp (res_nil rfl))))) ⟨hcp0_0, hcp0_1, hcp0_2, hcp0_3, ⟨DOk.nil, (Nat.le_refl 0)⟩⟩ (fun W h => (((h.dropH (t := 100100) rfl).dropH (t := 100060) rfl).dropH (t := 100030) rfl).phi (fun W hφ => ⟨hφ, (fun W h => fp0_0 W h) W hφ, (fun W h => fp0_1 W h) W hφ, (fun W h => fp0_2 W h) W hφ, (fun W h => fp0_3 W h) W hφ, (fun W h => DOwn.nil) W hφ⟩)) (.inr rfl)
   replace hm := ite_f hm (of_decide_eq_false h90)
   refine c_seq <| c_region <| g_v rfl r_move <| g_v rfl (r_neq rfl rfl) <| g_v rfl r_move ?_
   refine g_if rfl rfl rfl rfl rfl (fun h91 => ?_) (fun h91 => ?_)
   ·
    replace hm := ite_t hm (of_decide_eq_true h91)
    refine g_v rfl r_move <| g_do rfl rfl rfl rfl rfl h91 <| g_v rfl (r_neq rfl rfl) <| g_v rfl (r_pick1 rfl h91) <| g_v rfl r_assign <| g_nil <| d_then ?_
    refine c_flat [(1, .int .i64 p1), (2, .string p2), (3, .pointer (some ⟨g1, 0, none⟩)), (6, .pointer (some ⟨g2, 0, none⟩)), (10, .pointer (some ⟨g3, 0, none⟩)), (11, .int .i64 x4), (36, .bool (decide (p1 ≠ 1)))] ⟨rfl, rfl, rfl, rfl, rfl, rfl, rfl, trivial⟩ (fun u => ?_)
    refine c_cond rfl (fun h92 => ?_) (fun h92 => ?_)
    ·
     replace hm := ite_t hm (of_decide_eq_true h92)
     refine c_seq <| c_region <| g_v rfl (r_loadA (tag := 100030) rfl rfl Try.isAgg43 Try.sizeOf43 rfl rfl) <| g_storeL (tag := 100060) rfl rfl rfl rfl Try.sizeOf43 rfl rfl ?_
     iterate 3 refine g_v rfl r_assign ?_
     refine g_nil <| d_then <| c_ret <| d_ret_block <| d_ret_then <| d_ret_then ?_
     cases hm
     refine d_sta _ (fun W h => nilR h 19 25 11) <| d_sta _ (fun W h => ok_frontR (t := 19) (t' := 2004) h rfl) ?_
     exact d_retC (Ap0_0, cp0_0, Ap0_1, cp0_1, Ap0_2, cp0_2, Ap0_3, cp0_3, none, 0, ([] : List GNoteP)) Try.results19 (res_agg (tag := 100060) rfl rfl Try.isAgg43 Try.sizeOf43 (res_tmp (res_tmp (res_tmp (res_nil rfl))))) ⟨hcp0_0, hcp0_1, hcp0_2, hcp0_3, ⟨DOk.nil, (Nat.le_refl 0)⟩⟩ (fun W h => (((h.dropH (t := 100100) rfl).dropH (t := 100060) rfl).dropH (t := 100030) rfl).phi (fun W hφ => ⟨hφ, (fun W h => fp0_0 W h) W hφ, (fun W h => fp0_1 W h) W hφ, (fun W h => fp0_2 W h) W hφ, (fun W h => fp0_3 W h) W hφ, (fun W h => DOwn.nil) W hφ⟩)) (.inr rfl)
    replace hm := ite_f hm (of_decide_eq_false h92)
    refine c_skip <| d_normal_block ?_
    exact d_round () hm Nat.zero_lt_one ⟨rfl, rfl, rfl, rfl, rfl, rfl, trivial⟩ (fun W h => h.phi (fun W hφ => hφ))
   replace hm := ite_f hm (of_decide_eq_false h91)
   refine g_no rfl rfl rfl rfl rfl h91 <| g_v rfl (r_pick0 rfl h91) <| g_v rfl r_assign <| g_nil <| d_then ?_
   refine c_flat [(1, .int .i64 p1), (2, .string p2), (3, .pointer (some ⟨g1, 0, none⟩)), (6, .pointer (some ⟨g2, 0, none⟩)), (10, .pointer (some ⟨g3, 0, none⟩)), (11, .int .i64 x4), (36, .bool false)] ⟨rfl, rfl, rfl, rfl, rfl, rfl, rfl, trivial⟩ (fun u => ?_)
   refine c_cond0 rfl rfl <| c_skip <| d_normal_block ?_
   exact d_round () hm Nat.zero_lt_one ⟨rfl, rfl, rfl, rfl, rfl, rfl, trivial⟩ (fun W h => h.phi (fun W hφ => hφ))
  replace hm := ite_t hm (of_decide_eq_true h89)
  refine g_no rfl rfl rfl rfl rfl h89 <| g_v rfl (r_pick1 rfl h89) <| g_v rfl r_assign <| g_nil <| d_then <| c_cond1 rfl rfl <| c_seq <| c_region <| g_v rfl (r_loadA (tag := 100030) rfl rfl Try.isAgg43 Try.sizeOf43 rfl rfl) <| g_storeL (tag := 100060) rfl rfl rfl rfl Try.sizeOf43 rfl rfl ?_
  iterate 3 refine g_v rfl r_assign ?_
  refine g_nil <| d_then ?_
  refine c_flat [(6, .pointer (some ⟨g2, 0, none⟩)), (7, .slice none 0 0), (8, .int .i64 0), (9, .int .i64 11)] ⟨rfl, rfl, rfl, rfl, trivial⟩ (fun u => ?_)
  refine c_sta ⟨w0, M, (100100, g3, .cells #[.int .i64 p0.fMe, .int .i64 p0.fRole, .int .i64 p0.fLeader, .int .i64 p0.fCommit, .int .i64 p0.fLeft, .int .i64 p0.fHard.fTerm, .int .i64 p0.fHard.fVote, .slice Ap0_0 p0.fHard.fVoters.length cp0_0, .string p0.fHard.fSnap, .int .i64 p0.fHard.fLog.fBase, .int .i64 p0.fHard.fLog.fBaseTerm, .slice Ap0_1 p0.fHard.fLog.fEntries.length cp0_1, .slice Ap0_2 p0.fVotes.length cp0_2, .slice Ap0_3 p0.fMarks.length cp0_3] 84 (0, 0)) :: (100060, g2, .cells #[.int .i64 p0.fMe, .int .i64 p0.fRole, .int .i64 p0.fLeader, .int .i64 p0.fCommit, .int .i64 p0.fLeft, .int .i64 p0.fHard.fTerm, .int .i64 p0.fHard.fVote, .slice Ap0_0 p0.fHard.fVoters.length cp0_0, .string p0.fHard.fSnap, .int .i64 p0.fHard.fLog.fBase, .int .i64 p0.fHard.fLog.fBaseTerm, .slice Ap0_1 p0.fHard.fLog.fEntries.length cp0_1, .slice Ap0_2 p0.fVotes.length cp0_2, .slice Ap0_3 p0.fMarks.length cp0_3] 43 (0, 0)) :: (100030, g1, .cells #[.int .i64 p0.fMe, .int .i64 p0.fRole, .int .i64 p0.fLeader, .int .i64 p0.fCommit, .int .i64 p0.fLeft, .int .i64 p0.fHard.fTerm, .int .i64 p0.fHard.fVote, .slice Ap0_0 p0.fHard.fVoters.length cp0_0, .string p0.fHard.fSnap, .int .i64 p0.fHard.fLog.fBase, .int .i64 p0.fHard.fLog.fBaseTerm, .slice Ap0_1 p0.fHard.fLog.fEntries.length cp0_1, .slice Ap0_2 p0.fVotes.length cp0_2, .slice Ap0_3 p0.fMarks.length cp0_3] 43 (0, 0)) :: H, R, φ⟩ (fun _ h => h) <| c_ret <| d_ret_block <| d_ret_then <| d_ret_then ?_
  cases hm
  refine d_sta _ (fun W h => nilR h 20 25 11) <| d_sta _ (fun W h => ok_frontR (t := 20) (t' := 2004) h rfl) ?_
  exact d_retC (Ap0_0, cp0_0, Ap0_1, cp0_1, Ap0_2, cp0_2, Ap0_3, cp0_3, none, 0, ([] : List GNoteP)) Try.results19 (res_agg (tag := 100060) rfl rfl Try.isAgg43 Try.sizeOf43 (res_tmp (res_tmp (res_tmp (res_nil rfl))))) ⟨hcp0_0, hcp0_1, hcp0_2, hcp0_3, ⟨DOk.nil, (Nat.le_refl 0)⟩⟩ (fun W h => (((h.dropH (t := 100100) rfl).dropH (t := 100060) rfl).dropH (t := 100030) rfl).phi (fun W hφ => ⟨hφ, (fun W h => fp0_0 W h) W hφ, (fun W h => fp0_1 W h) W hφ, (fun W h => fp0_2 W h) W hφ, (fun W h => fp0_3 W h) W hφ, (fun W h => DOwn.nil) W hφ⟩)) (.inr rfl)
 unfold m_raft_Propose_j1 at hm
 refine d_flat [(1, .int .i64 p1), (2, .string p2), (3, .pointer (some ⟨g1, 0, none⟩)), (6, .pointer (some ⟨g2, 0, none⟩)), (10, .pointer (some ⟨g3, 0, none⟩)), (11, .int .i64 x4)] ⟨rfl, rfl, rfl, rfl, rfl, rfl, trivial⟩ (fun u => ?_)
 refine d_then <| c_seq ?_
 refine c_cut (ι := Unit) [1, 2, 6, 10, 11] (fun _ => []) (fun _ => ⟨w0, M, (100100, g3, .cells #[.int .i64 p0.fMe, .int .i64 p0.fRole, .int .i64 p0.fLeader, .int .i64 p0.fCommit, .int .i64 p0.fLeft, .int .i64 p0.fHard.fTerm, .int .i64 p0.fHard.fVote, .slice Ap0_0 p0.fHard.fVoters.length cp0_0, .string p0.fHard.fSnap, .int .i64 p0.fHard.fLog.fBase, .int .i64 p0.fHard.fLog.fBaseTerm, .slice Ap0_1 p0.fHard.fLog.fEntries.length cp0_1, .slice Ap0_2 p0.fVotes.length cp0_2, .slice Ap0_3 p0.fMarks.length cp0_3] 84 (0, 0)) :: (100060, g2, .cells #[.int .i64 0, .int .i64 0, .int .i64 0, .int .i64 0, .int .i64 0, .int .i64 0, .int .i64 0, .slice none 0 0, .string (⟨#[]⟩ : ByteArray), .int .i64 0, .int .i64 0, .slice none 0 0, .slice none 0 0, .slice none 0 0] 43 (0, 0)) :: H, R, φ⟩) (fun _ => m_raft_Propose_j2 p0 p1 p2 x4 = some r) ?_ (fun _ u hm => ?_)
 ·
  refine c_seq <| c_region <| g_v rfl r_move <| g_v rfl (r_eql rfl rfl) <| g_nil <| d_then ?_
  refine c_cond rfl (fun h84 => ?_) (fun h84 => ?_)
  ·
   replace hm := ite_t hm (of_decide_eq_true h84)
   refine c_seq <| c_region <| g_v rfl (r_loadA (tag := 100100) rfl rfl Try.isAgg84 Try.sizeOf84 rfl rfl) <| g_v rfl r_move ?_
   replace hm := bnd hm
   obtain ⟨x85, hx86, hm⟩ := hm
   refine g_cn ⟨w0, M, _, _, φ⟩ (fun _ h => h) Try.call43 rfl rfl (c_raft_state_change (⟨p0⟩ : Graft_state) Ap0_0 cp0_0 hcp0_0 (fun W hS => fp0_0 W hS.now) Ap0_1 cp0_1 hcp0_1 (fun W hS => fp0_1 W hS.now) Ap0_2 cp0_2 hcp0_2 (fun W hS => fp0_2 W hS.now) Ap0_3 cp0_3 hcp0_3 (fun W hS => fp0_3 W hS.now) p2 _ hx86) (fun _ _ => ?_)
   refine g_v rfl r_assign <| g_nil <| d_then <| c_seq <| c_region <| g_v rfl r_move <| g_v rfl (r_neq rfl rfl) <| g_nil <| d_then ?_
   refine c_cond rfl (fun h87 => ?_) (fun h87 => ?_)
   ·
    replace hm := ite_t hm (of_decide_eq_true h87)
    refine c_seq <| c_region <| g_v rfl (r_loadA (tag := 100030) rfl rfl Try.isAgg43 Try.sizeOf43 rfl rfl) <| g_v rfl r_move <| g_storeL (tag := 100060) rfl rfl rfl rfl Try.sizeOf43 rfl rfl ?_
    iterate 3 refine g_v rfl r_assign ?_
    refine g_nil <| d_then ?_
    refine c_flat [(6, .pointer (some ⟨g2, 0, none⟩)), (7, .slice none 0 0), (8, .int .i64 0), (9, .int .i64 x85)] ⟨rfl, rfl, rfl, rfl, trivial⟩ (fun u => ?_)
    refine c_sta ⟨w0, M, (100100, g3, .cells #[.int .i64 p0.fMe, .int .i64 p0.fRole, .int .i64 p0.fLeader, .int .i64 p0.fCommit, .int .i64 p0.fLeft, .int .i64 p0.fHard.fTerm, .int .i64 p0.fHard.fVote, .slice Ap0_0 p0.fHard.fVoters.length cp0_0, .string p0.fHard.fSnap, .int .i64 p0.fHard.fLog.fBase, .int .i64 p0.fHard.fLog.fBaseTerm, .slice Ap0_1 p0.fHard.fLog.fEntries.length cp0_1, .slice Ap0_2 p0.fVotes.length cp0_2, .slice Ap0_3 p0.fMarks.length cp0_3] 84 (0, 0)) :: (100060, g2, .cells #[.int .i64 p0.fMe, .int .i64 p0.fRole, .int .i64 p0.fLeader, .int .i64 p0.fCommit, .int .i64 p0.fLeft, .int .i64 p0.fHard.fTerm, .int .i64 p0.fHard.fVote, .slice Ap0_0 p0.fHard.fVoters.length cp0_0, .string p0.fHard.fSnap, .int .i64 p0.fHard.fLog.fBase, .int .i64 p0.fHard.fLog.fBaseTerm, .slice Ap0_1 p0.fHard.fLog.fEntries.length cp0_1, .slice Ap0_2 p0.fVotes.length cp0_2, .slice Ap0_3 p0.fMarks.length cp0_3] 43 (0, 0)) :: (100030, g1, .cells #[.int .i64 p0.fMe, .int .i64 p0.fRole, .int .i64 p0.fLeader, .int .i64 p0.fCommit, .int .i64 p0.fLeft, .int .i64 p0.fHard.fTerm, .int .i64 p0.fHard.fVote, .slice Ap0_0 p0.fHard.fVoters.length cp0_0, .string p0.fHard.fSnap, .int .i64 p0.fHard.fLog.fBase, .int .i64 p0.fHard.fLog.fBaseTerm, .slice Ap0_1 p0.fHard.fLog.fEntries.length cp0_1, .slice Ap0_2 p0.fVotes.length cp0_2, .slice Ap0_3 p0.fMarks.length cp0_3] 43 (0, 0)) :: H, R, φ⟩ (fun _ h => h) <| c_ret <| d_ret_then <| d_ret_then ?_
    cases hm
    refine d_sta _ (fun W h => nilR h 16 25 11) <| d_sta _ (fun W h => ok_frontR (t := 16) (t' := 2004) h rfl) ?_
    exact d_retC (Ap0_0, cp0_0, Ap0_1, cp0_1, Ap0_2, cp0_2, Ap0_3, cp0_3, none, 0, ([] : List GNoteP)) Try.results19 (res_agg (tag := 100060) rfl rfl Try.isAgg43 Try.sizeOf43 (res_tmp (res_tmp (res_tmp (res_nil rfl))))) ⟨hcp0_0, hcp0_1, hcp0_2, hcp0_3, ⟨DOk.nil, (Nat.le_refl 0)⟩⟩ (fun W h => (((h.dropH (t := 100100) rfl).dropH (t := 100060) rfl).dropH (t := 100030) rfl).phi (fun W hφ => ⟨hφ, (fun W h => fp0_0 W h) W hφ, (fun W h => fp0_1 W h) W hφ, (fun W h => fp0_2 W h) W hφ, (fun W h => fp0_3 W h) W hφ, (fun W h => DOwn.nil) W hφ⟩)) (.inr rfl)
   replace hm := ite_f hm (of_decide_eq_false h87)
   refine c_skip ?_
   exact d_round () hm Nat.zero_lt_one ⟨rfl, rfl, rfl, rfl, rfl, trivial⟩ (fun W h => (h.dropH (t := 100030) rfl).phi (fun W hφ => hφ))
  replace hm := ite_f hm (of_decide_eq_false h84)
  refine c_skip ?_
  exact d_round () hm Nat.zero_lt_one ⟨rfl, rfl, rfl, rfl, rfl, trivial⟩ (fun W h => (h.dropH (t := 100030) rfl).phi (fun W hφ => hφ))
 unfold m_raft_Propose_j2 at hm
 refine d_flat [(1, .int .i64 p1), (2, .string p2), (6, .pointer (some ⟨g2, 0, none⟩)), (10, .pointer (some ⟨g3, 0, none⟩)), (11, .int .i64 x4)] ⟨rfl, rfl, rfl, rfl, rfl, trivial⟩ (fun u => ?_)
 refine d_sta ⟨w0, M, (100100, g3, .cells #[.int .i64 p0.fMe, .int .i64 p0.fRole, .int .i64 p0.fLeader, .int .i64 p0.fCommit, .int .i64 p0.fLeft, .int .i64 p0.fHard.fTerm, .int .i64 p0.fHard.fVote, .slice Ap0_0 p0.fHard.fVoters.length cp0_0, .string p0.fHard.fSnap, .int .i64 p0.fHard.fLog.fBase, .int .i64 p0.fHard.fLog.fBaseTerm, .slice Ap0_1 p0.fHard.fLog.fEntries.length cp0_1, .slice Ap0_2 p0.fVotes.length cp0_2, .slice Ap0_3 p0.fMarks.length cp0_3] 84 (0, 0)) :: (100060, g2, .cells #[.int .i64 0, .int .i64 0, .int .i64 0, .int .i64 0, .int .i64 0, .int .i64 0, .int .i64 0, .slice none 0 0, .string (⟨#[]⟩ : ByteArray), .int .i64 0, .int .i64 0, .slice none 0 0, .slice none 0 0, .slice none 0 0] 43 (0, 0)) :: H, R, φ⟩ (fun _ h => h) <| d_then <| c_seq <| c_region <| g_v rfl (r_field (n := 0) Try.underlying84 rfl Try.sizeOf43 rfl rfl) <| g_v rfl (r_field (n := 5) Try.underlying43 rfl Try.sizeOf40 rfl rfl) <| g_v rfl (r_field (n := 9) Try.underlying40 rfl Try.sizeOf38 rfl rfl) <| g_v rfl (r_loadA (tag := 100100) rfl rfl Try.isAgg38 Try.sizeOf38 rfl rfl) <| g_v rfl (r_field (n := 0) Try.underlying84 rfl Try.sizeOf43 rfl rfl) <| g_v rfl (r_field (n := 5) Try.underlying43 rfl Try.sizeOf40 rfl rfl) ?_
 refine g_v rfl (r_field (n := 5) Try.underlying40 rfl Try.sizeOf3 rfl rfl) <| g_v rfl (r_load (tag := 100100) rfl rfl rfl Try.isAgg3) <| g_v rfl r_move <| g_v rfl r_move <| g_v rfl (r_build _ rfl (bld36_25 _ _ _)) ?_
 refine g_e rfl (e_lit (tag := 100640) (l := [(⟨p0.fHard.fTerm, p1, p2⟩ : GEntry)]) (enc := GEntry.enc) (sz := 3) rfl Try.underlying22 (lit36_13 _ _ _) rfl rfl (fun _ => rfl)) (fun g17 _ => ?_)
 refine g_shut (tag := 100640) rfl (fun φ18 q18' => ?_)
 have q18 : ∀ W, φ18 W → φ W := fun W h => (q18' W h).1
 have f19 := fun (W : World) (h : φ18 W) => (q18' W h).2
 replace hm := bnd hm
 obtain ⟨x20, hx21, hm⟩ := hm
 refine g_cn ⟨w0, M, _, _, φ18⟩ (fun _ h => h) Try.call44 rfl rfl (c_plog_Add p0.fHard.fLog Ap0_1 cp0_1 hcp0_1 (fun W h => fp0_1 W (q18 _ h)) [(⟨p0.fHard.fTerm, p1, p2⟩ : GEntry)] (some ⟨g17, 0, none⟩) 1 (Nat.le_refl _) (fun W h => f19 W h) _ hx21) (fun ⟨A22, c23⟩ hc23 => ?_)
 refine g_abs (fun φ25 q25' => ?_)
 have q25 : ∀ W, φ25 W → φ18 W := fun W h => (q25' W h).1
 have f24 := fun (W : World) (h : φ25 W) => (q25' W h).2
 refine g_v rfl (r_field (n := 0) Try.underlying84 rfl Try.sizeOf43 rfl rfl) <| g_v rfl (r_field (n := 5) Try.underlying43 rfl Try.sizeOf40 rfl rfl) <| g_v rfl (r_field (n := 9) Try.underlying40 rfl Try.sizeOf38 rfl rfl) <| g_storeL (tag := 100100) rfl rfl rfl rfl Try.sizeOf38 rfl rfl <| g_nil <| d_then ?_
 refine c_flat [(1, .int .i64 p1), (6, .pointer (some ⟨g2, 0, none⟩)), (10, .pointer (some ⟨g3, 0, none⟩)), (11, .int .i64 x4)] ⟨rfl, rfl, rfl, rfl, trivial⟩ (fun u => ?_)
 refine c_sta ⟨w0, M, (100100, g3, .cells #[.int .i64 p0.fMe, .int .i64 p0.fRole, .int .i64 p0.fLeader, .int .i64 p0.fCommit, .int .i64 p0.fLeft, .int .i64 p0.fHard.fTerm, .int .i64 p0.fHard.fVote, .slice Ap0_0 p0.fHard.fVoters.length cp0_0, .string p0.fHard.fSnap, .int .i64 x20.fBase, .int .i64 x20.fBaseTerm, .slice A22 x20.fEntries.length c23, .slice Ap0_2 p0.fVotes.length cp0_2, .slice Ap0_3 p0.fMarks.length cp0_3] 84 (0, 0)) :: (100060, g2, .cells #[.int .i64 0, .int .i64 0, .int .i64 0, .int .i64 0, .int .i64 0, .int .i64 0, .int .i64 0, .slice none 0 0, .string (⟨#[]⟩ : ByteArray), .int .i64 0, .int .i64 0, .slice none 0 0, .slice none 0 0, .slice none 0 0] 43 (0, 0)) :: H, R, φ25⟩ (fun _ h => h) <| c_seq ?_
 refine c_cut (ι := (List GMark) × Option Addr × Nat) [6, 10, 11] (fun ⟨l32, A33, c34⟩ => []) (fun ⟨l32, A33, c34⟩ => ⟨w0, M, (100100, g3, .cells #[.int .i64 p0.fMe, .int .i64 p0.fRole, .int .i64 p0.fLeader, .int .i64 p0.fCommit, .int .i64 p0.fLeft, .int .i64 p0.fHard.fTerm, .int .i64 p0.fHard.fVote, .slice Ap0_0 p0.fHard.fVoters.length cp0_0, .string p0.fHard.fSnap, .int .i64 x20.fBase, .int .i64 x20.fBaseTerm, .slice A22 x20.fEntries.length c23, .slice Ap0_2 p0.fVotes.length cp0_2, .slice A33 l32.length c34] 84 (0, 0)) :: (100060, g2, .cells #[.int .i64 0, .int .i64 0, .int .i64 0, .int .i64 0, .int .i64 0, .int .i64 0, .int .i64 0, .slice none 0 0, .string (⟨#[]⟩ : ByteArray), .int .i64 0, .int .i64 0, .slice none 0 0, .slice none 0 0, .slice none 0 0] 43 (0, 0)) :: H, R, fun W => φ25 W ∧ Cl W A33 (l32.flatMap GMark.enc)⟩) (fun ⟨l32, A33, c34⟩ => m_raft_Propose_j3 p0 x20 x4 l32 = some r ∧ l32.length ≤ c34) ?_ (fun ⟨l32, A33, c34⟩ u ⟨hm, hc34⟩ => ?_)
 ·
  refine c_seq <| c_region <| g_v rfl r_move <| g_v rfl (r_eql rfl rfl) <| g_nil <| d_then ?_
  refine c_cond rfl (fun h76 => ?_) (fun h76 => ?_)
  ·
   replace hm := ite_t hm (of_decide_eq_true h76)
   refine c_region <| g_v rfl (r_loadA (tag := 100100) rfl rfl Try.isAgg84 Try.sizeOf84 rfl rfl) <| g_v rfl r_move <| g_v rfl (r_add rfl rfl rfl) ?_
   replace hm := bnd hm
   obtain ⟨x77, hx78, hm⟩ := hm
   refine g_cn ⟨w0, M, _, _, φ25⟩ (fun _ h => h) Try.call45 rfl rfl (c_raft_state_marks (⟨(⟨p0.fMe, p0.fRole, p0.fLeader, p0.fCommit, p0.fLeft, (⟨p0.fHard.fTerm, p0.fHard.fVote, p0.fHard.fVoters, p0.fHard.fSnap, x20⟩ : GHard), p0.fVotes, p0.fMarks⟩ : GRaft)⟩ : Graft_state) Ap0_0 cp0_0 hcp0_0 (fun W h => fp0_0 W (q18 _ (q25 _ h))) A22 c23 hc23 (fun W h => f24 W h) Ap0_2 cp0_2 hcp0_2 (fun W h => fp0_2 W (q18 _ (q25 _ h))) Ap0_3 cp0_3 hcp0_3 (fun W h => fp0_3 W (q18 _ (q25 _ h))) (w64 (x4 + 1)) _ hx78) (fun ⟨A79, c80⟩ hc80 => ?_)
   refine g_sta _ (fun W h => (ok_frontR (t := 2000) (t' := 100740) h rfl)) <| g_v rfl (r_field (n := 0) Try.underlying84 rfl Try.sizeOf43 rfl rfl) <| g_v rfl (r_field (n := 13) Try.underlying43 rfl Try.sizeOf41 rfl rfl) <| g_storeL (tag := 100100) rfl rfl rfl rfl Try.sizeOf41 rfl rfl <| g_nil ?_
   refine d_shut (tag := 100740) rfl (fun φ82 q82' => ?_)
   have q82 : ∀ W, φ82 W → φ25 W := fun W h => (q82' W h).1
   have f83 := fun (W : World) (h : φ82 W) => (q82' W h).2
   exact d_round (x77, A79, c80) ⟨hm, hc80⟩ Nat.zero_lt_one ⟨rfl, rfl, rfl, trivial⟩ (fun W h => h.phi (fun W hφ => ⟨(q82 _ hφ), (fun W h => f83 W h) W hφ⟩))
  replace hm := ite_f hm (of_decide_eq_false h76)
  refine c_skip ?_
  exact d_round (p0.fMarks, Ap0_3, cp0_3) ⟨hm, hcp0_3⟩ Nat.zero_lt_one ⟨rfl, rfl, rfl, trivial⟩ (fun W h => h.phi (fun W hφ => ⟨hφ, (fun W h => fp0_3 W (q18 _ (q25 _ h))) W hφ⟩))
 unfold m_raft_Propose_j3 at hm
 refine d_abs (fun φ36 q36' => ?_)
 have q36 : ∀ W, φ36 W → φ25 W := fun W h => (q36' W h).1
 have f35 := fun (W : World) (h : φ36 W) => (q36' W h).2
 refine d_flat [(6, .pointer (some ⟨g2, 0, none⟩)), (10, .pointer (some ⟨g3, 0, none⟩)), (11, .int .i64 x4)] ⟨rfl, rfl, rfl, trivial⟩ (fun u => ?_)
 refine d_sta ⟨w0, M, (100100, g3, .cells #[.int .i64 p0.fMe, .int .i64 p0.fRole, .int .i64 p0.fLeader, .int .i64 p0.fCommit, .int .i64 p0.fLeft, .int .i64 p0.fHard.fTerm, .int .i64 p0.fHard.fVote, .slice Ap0_0 p0.fHard.fVoters.length cp0_0, .string p0.fHard.fSnap, .int .i64 x20.fBase, .int .i64 x20.fBaseTerm, .slice A22 x20.fEntries.length c23, .slice Ap0_2 p0.fVotes.length cp0_2, .slice A33 l32.length c34] 84 (0, 0)) :: (100060, g2, .cells #[.int .i64 0, .int .i64 0, .int .i64 0, .int .i64 0, .int .i64 0, .int .i64 0, .int .i64 0, .slice none 0 0, .string (⟨#[]⟩ : ByteArray), .int .i64 0, .int .i64 0, .slice none 0 0, .slice none 0 0, .slice none 0 0] 43 (0, 0)) :: H, R, φ36⟩ (fun _ h => h) <| d_then <| c_seq <| c_region <| g_v rfl (r_loadA (tag := 100100) rfl rfl Try.isAgg84 Try.sizeOf84 rfl rfl) ?_
 replace hm := bnd hm
 obtain ⟨x37, hx38, hm⟩ := hm
 refine g_cn ⟨w0, M, _, _, φ36⟩ (fun _ h => h) Try.call46 rfl rfl (c_raft_state_commit (⟨(⟨p0.fMe, p0.fRole, p0.fLeader, p0.fCommit, p0.fLeft, (⟨p0.fHard.fTerm, p0.fHard.fVote, p0.fHard.fVoters, p0.fHard.fSnap, x20⟩ : GHard), p0.fVotes, l32⟩ : GRaft)⟩ : Graft_state) Ap0_0 cp0_0 hcp0_0 (fun W h => fp0_0 W (q18 _ (q25 _ (q36 _ h)))) A22 c23 hc23 (fun W h => f24 W (q36 _ h)) Ap0_2 cp0_2 hcp0_2 (fun W h => fp0_2 W (q18 _ (q25 _ (q36 _ h)))) A33 c34 hc34 (fun W h => f35 W h) _ hx38) (fun ⟨A39, c40, A42, c43, A45, c46, A48, c49⟩ ⟨hc40, hc43, hc46, hc49⟩ => ?_)
 refine g_abs (fun φ51 q51' => ?_)
 have q51 : ∀ W, φ51 W → φ36 W := fun W h => (q51' W h).1
 have f41 := fun (W : World) (h : φ51 W) => (q51' W h).2.1
 have f44 := fun (W : World) (h : φ51 W) => (q51' W h).2.2.1
 have f47 := fun (W : World) (h : φ51 W) => (q51' W h).2.2.2.1
 have f50 := fun (W : World) (h : φ51 W) => (q51' W h).2.2.2.2
 refine g_storeL (tag := 100100) rfl rfl rfl rfl Try.sizeOf84 rfl rfl <| g_nil <| d_then <| c_seq <| ga_start (n := 10) ⟨w0, M, (100100, g3, .cells #[.int .i64 x37.fRaft.fMe, .int .i64 x37.fRaft.fRole, .int .i64 x37.fRaft.fLeader, .int .i64 x37.fRaft.fCommit, .int .i64 x37.fRaft.fLeft, .int .i64 x37.fRaft.fHard.fTerm, .int .i64 x37.fRaft.fHard.fVote, .slice A39 x37.fRaft.fHard.fVoters.length c40, .string x37.fRaft.fHard.fSnap, .int .i64 x37.fRaft.fHard.fLog.fBase, .int .i64 x37.fRaft.fHard.fLog.fBaseTerm, .slice A42 x37.fRaft.fHard.fLog.fEntries.length c43, .slice A45 x37.fRaft.fVotes.length c46, .slice A48 x37.fRaft.fMarks.length c49] 84 (0, 0)) :: H, R, φ51⟩ [] #[false, false, false, false, false, false, false, false, false, false] (fun W h => (h.dropH (t := 100060) rfl).phi (fun W hφ => hφ)) mixed rfl rfl <| ga_v (i := 0) (bz 10 1) rfl (by kernel_rfl) (fun _ _ _ _ h => h) rfl (r_field (n := 0) Try.underlying84 rfl Try.sizeOf43 rfl rfl) <| ga_v (i := 1) (bz 10 3) rfl (by kernel_rfl) (fun _ _ _ _ h => h) rfl (r_loadA (tag := 100100) rfl rfl Try.isAgg43 Try.sizeOf43 rfl rfl) <| ga_v (i := 2) (bz 10 7) rfl (by kernel_rfl) (fun _ _ _ _ h => h) rfl (r_loadA (tag := 100100) rfl rfl Try.isAgg84 Try.sizeOf84 rfl rfl) <| ga_v (i := 4) (bz 10 23) rfl (by kernel_rfl) (fun _ _ _ _ h => h) rfl (r_move) <| ga_v (i := 5) (bz 10 55) rfl (by kernel_rfl) (fun _ _ _ _ h => h) rfl (r_add rfl rfl rfl) ?_
 replace hm := bnd hm
 obtain ⟨x68, hx69, hm⟩ := hm
 refine ga_cn (first := #[]) (i := 3) (bz 10 63) rfl (by kernel_rfl) (by decide)  ⟨w0, M, _, _, φ51⟩ (fun _ h => h) Try.call39 rfl rfl rfl (c_raft_state_all x37 A39 c40 hc40 (fun W h => f41 W h) A42 c43 hc43 (fun W hS => f44 W hS.now) A45 c46 hc46 (fun W hS => f47 W hS.now) A48 c49 hc49 (fun W hS => f50 W hS.now) _ hx69) (fun ⟨A70, c71, ps73⟩ W hc71 h => ((((ok_frontR (t := 2000) (t' := 100820) h rfl).phi (fun _ hh => hh.1)).dropR (t := 100820) rfl).dropH (t := 100060) rfl).phi (fun W hφ => hφ)) (fun ⟨A70, c71, ps73⟩ hc71 => ?_)
 refine ga_sta _ (fun W h => (ok_frontR (t := 2000) (t' := 100820) h rfl)) ?_
 refine ga_abs (fun φ75 q75' => ?_)
 have q75 : ∀ W, φ75 W → φ51 W := fun W h => (q75' W h).1
 have f74 := fun (W : World) (h : φ75 W) => (q75' W h).2
 refine ga_storeN (i := 6) (tag := 100060) (bz 10 127) rfl (by kernel_rfl) (by decide) rfl rfl rfl rfl Try.sizeOf43 rfl rfl (fun W h => ((h.dropR (t := 100820) rfl).dropH (t := 100060) rfl).phi (fun W hφ => (q75 _ hφ))) <| ga_r (i := 7) (bz 10 255) rfl (by kernel_rfl) (by decide) rfl (r_assign) <| ga_r (i := 8) (bz 10 511) rfl (by kernel_rfl) (by decide) rfl (r_assign) <| ga_r (i := 9) (bz 10 1023) rfl (by kernel_rfl) (by decide) rfl (r_assign) <| ga_done (by kernel_rfl) <| d_then ?_
 refine c_flat [(6, .pointer (some ⟨g2, 0, none⟩)), (7, .slice A70 x68.length c71), (8, .int .i64 (w64 (x4 + 1))), (9, .int .i64 0)] ⟨rfl, rfl, rfl, rfl, trivial⟩ (fun u => ?_)
 refine c_sta ⟨w0, M, (100100, g3, .cells #[.int .i64 x37.fRaft.fMe, .int .i64 x37.fRaft.fRole, .int .i64 x37.fRaft.fLeader, .int .i64 x37.fRaft.fCommit, .int .i64 x37.fRaft.fLeft, .int .i64 x37.fRaft.fHard.fTerm, .int .i64 x37.fRaft.fHard.fVote, .slice A39 x37.fRaft.fHard.fVoters.length c40, .string x37.fRaft.fHard.fSnap, .int .i64 x37.fRaft.fHard.fLog.fBase, .int .i64 x37.fRaft.fHard.fLog.fBaseTerm, .slice A42 x37.fRaft.fHard.fLog.fEntries.length c43, .slice A45 x37.fRaft.fVotes.length c46, .slice A48 x37.fRaft.fMarks.length c49] 84 (0, 0)) :: (100060, g2, .cells #[.int .i64 x37.fRaft.fMe, .int .i64 x37.fRaft.fRole, .int .i64 x37.fRaft.fLeader, .int .i64 x37.fRaft.fCommit, .int .i64 x37.fRaft.fLeft, .int .i64 x37.fRaft.fHard.fTerm, .int .i64 x37.fRaft.fHard.fVote, .slice A39 x37.fRaft.fHard.fVoters.length c40, .string x37.fRaft.fHard.fSnap, .int .i64 x37.fRaft.fHard.fLog.fBase, .int .i64 x37.fRaft.fHard.fLog.fBaseTerm, .slice A42 x37.fRaft.fHard.fLog.fEntries.length c43, .slice A45 x37.fRaft.fVotes.length c46, .slice A48 x37.fRaft.fMarks.length c49] 43 (0, 0)) :: H, (100820, ⟨.slice A70 x68.length c71, 25, 11, x68.length, (x68.zip ps73).flatMap GNote.encP⟩) :: R, φ75⟩ (fun _ h => h) <| c_ret ?_
 cases hm
 refine d_sta _ (fun W h => ok_frontR (t := 100820) (t' := 2004) h rfl) ?_
 exact d_retC (A39, c40, A42, c43, A45, c46, A48, c49, A70, c71, ps73) Try.results19 (res_agg (tag := 100060) rfl rfl Try.isAgg43 Try.sizeOf43 (res_tmp (res_tmp (res_tmp (res_nil rfl))))) ⟨hc40, hc43, hc46, hc49, ⟨hc71.1, hc71.2⟩⟩ (fun W h => ((h.dropH (t := 100100) rfl).dropH (t := 100060) rfl).phi (fun W hφ => ⟨(q18 _ (q25 _ (q36 _ (q51 _ (q75 _ hφ))))), (fun W h => f41 W (q75 _ h)) W hφ, (fun W h => f44 W (q75 _ h)) W hφ, (fun W h => f47 W (q75 _ h)) W hφ, (fun W h => f50 W (q75 _ h)) W hφ, (fun W h => (f74 W h)) W hφ⟩)) (.inr rfl)
noncomputable def m_raft_Compact (p0 : GRaft) (p1 : Int) (p2 : ByteArray) : Option (GRaft × Int) :=
  if p1 ≤ p0.fHard.fLog.fBase then
    some (p0, 1)
  else
    if p0.fCommit < p1 then
      some (p0, 1)
    else
      (m_plog_Cut p0.fHard.fLog p1).bind fun (z12 : GLog × Int) =>
      if z12.2 ≠ 0 then
        some (p0, z12.2)
      else
        if 50000 < (p2.size : Int) then
          some (p0, 11)
        else
          (cutHi p0.fHard.fLog.fEntries (w64 (p1 - p0.fHard.fLog.fBase))).bind fun l18 =>
          (m_plog_Now (⟨p0.fHard.fTerm, p0.fHard.fVote, p0.fHard.fVoters, p0.fHard.fSnap, (⟨p0.fHard.fLog.fBase, p0.fHard.fLog.fBaseTerm, l18⟩ : GLog)⟩ : GHard)).bind fun x29 =>
          some ((⟨p0.fMe, p0.fRole, p0.fLeader, p0.fCommit, p0.fLeft, (⟨p0.fHard.fTerm, p0.fHard.fVote, x29, p2, z12.1⟩ : GHard), p0.fVotes, p0.fMarks⟩ : GRaft), 0)
theorem c_raft_Compact {w0 : World} {M : Nat → Prop} {H : List (Nat × Nat × Obj)} {R : List (Nat × Row)} {φ : World → Prop} (p0 : GRaft) (Ap0_0 : Option Addr) (cp0_0 : Nat) (hcp0_0 : p0.fHard.fVoters.length ≤ cp0_0) (fp0_0 : ∀ W, φ W → Cl W Ap0_0 (p0.fHard.fVoters.flatMap (fun x : Int => [Value.int .i64 x]))) (Ap0_1 : Option Addr) (cp0_1 : Nat) (hcp0_1 : p0.fHard.fLog.fEntries.length ≤ cp0_1) (fp0_1 : ∀ W, φ W → Cl W Ap0_1 (p0.fHard.fLog.fEntries.flatMap GEntry.enc)) (Ap0_2 : Option Addr) (cp0_2 : Nat) (hcp0_2 : p0.fVotes.length ≤ cp0_2) (fp0_2 : ∀ W, φ W → Cl W Ap0_2 (p0.fVotes.flatMap (fun x : Int => [Value.int .i64 x]))) (Ap0_3 : Option Addr) (cp0_3 : Nat) (hcp0_3 : p0.fMarks.length ≤ cp0_3) (fp0_3 : ∀ W, φ W → Cl W Ap0_3 (p0.fMarks.flatMap GMark.enc)) (p1 : Int) (p2 : ByteArray) (r : GRaft × Int) (hm : m_raft_Compact p0 p1 p2 = some r) :
    Cn Try.prog 28 #[.agg #[.int .i64 p0.fMe, .int .i64 p0.fRole, .int .i64 p0.fLeader, .int .i64 p0.fCommit, .int .i64 p0.fLeft, .int .i64 p0.fHard.fTerm, .int .i64 p0.fHard.fVote, .slice Ap0_0 p0.fHard.fVoters.length cp0_0, .string p0.fHard.fSnap, .int .i64 p0.fHard.fLog.fBase, .int .i64 p0.fHard.fLog.fBaseTerm, .slice Ap0_1 p0.fHard.fLog.fEntries.length cp0_1, .slice Ap0_2 p0.fVotes.length cp0_2, .slice Ap0_3 p0.fMarks.length cp0_3], .int .i64 p1, .string p2] ⟨w0, M, H, R, φ⟩ (fun x : Option Addr × Nat × Option Addr × Nat × Option Addr × Nat × Option Addr × Nat => .tuple #[.agg #[.int .i64 r.1.fMe, .int .i64 r.1.fRole, .int .i64 r.1.fLeader, .int .i64 r.1.fCommit, .int .i64 r.1.fLeft, .int .i64 r.1.fHard.fTerm, .int .i64 r.1.fHard.fVote, .slice x.1 r.1.fHard.fVoters.length x.2.1, .string r.1.fHard.fSnap, .int .i64 r.1.fHard.fLog.fBase, .int .i64 r.1.fHard.fLog.fBaseTerm, .slice x.2.2.1 r.1.fHard.fLog.fEntries.length x.2.2.2.1, .slice x.2.2.2.2.1 r.1.fVotes.length x.2.2.2.2.2.1, .slice x.2.2.2.2.2.2.1 r.1.fMarks.length x.2.2.2.2.2.2.2], .int .i64 r.2]) (fun x => r.1.fHard.fVoters.length ≤ x.2.1 ∧ r.1.fHard.fLog.fEntries.length ≤ x.2.2.2.1 ∧ r.1.fVotes.length ≤ x.2.2.2.2.2.1 ∧ r.1.fMarks.length ≤ x.2.2.2.2.2.2.2) (fun x => ⟨w0, M, H, R, fun W => φ W ∧ Cl W x.1 (r.1.fHard.fVoters.flatMap (fun x : Int => [Value.int .i64 x])) ∧ Cl W x.2.2.1 (r.1.fHard.fLog.fEntries.flatMap GEntry.enc) ∧ Cl W x.2.2.2.2.1 (r.1.fVotes.flatMap (fun x : Int => [Value.int .i64 x])) ∧ Cl W x.2.2.2.2.2.2.1 (r.1.fMarks.flatMap GMark.enc)⟩) := by
 unfold m_raft_Compact at hm
 refine cn_intro (fn := Try.f28) (N := 66) Try.func28 rfl Try.ntmps28 rfl <| c_seq <| c_region ?_
 refine g_e rfl (e_box 100030 rfl) (fun g1 _ => ?_)
 refine g_e rfl (e_alloc 100060 Try.zeroValue43) (fun g2 _ => ?_)
 refine g_v rfl r_assign <| g_nil <| d_then <| c_seq <| c_seq <| c_region <| g_v rfl r_move <| g_v rfl (r_field (n := 5) Try.underlying43 rfl Try.sizeOf40 rfl rfl) <| g_v rfl (r_field (n := 9) Try.underlying40 rfl Try.sizeOf38 rfl rfl) <| g_v rfl (r_field (n := 9) Try.underlying38 rfl Try.sizeOf3 rfl rfl) ?_
 refine g_v rfl (r_load (tag := 100030) rfl rfl rfl Try.isAgg3) <| g_v rfl (r_leq rfl rfl) <| g_v rfl r_move <| g_sta ⟨w0, M, (100060, g2, .cells #[.int .i64 0, .int .i64 0, .int .i64 0, .int .i64 0, .int .i64 0, .int .i64 0, .int .i64 0, .slice none 0 0, .string (⟨#[]⟩ : ByteArray), .int .i64 0, .int .i64 0, .slice none 0 0, .slice none 0 0, .slice none 0 0] 43 (0, 0)) :: (100030, g1, .cells #[.int .i64 p0.fMe, .int .i64 p0.fRole, .int .i64 p0.fLeader, .int .i64 p0.fCommit, .int .i64 p0.fLeft, .int .i64 p0.fHard.fTerm, .int .i64 p0.fHard.fVote, .slice Ap0_0 p0.fHard.fVoters.length cp0_0, .string p0.fHard.fSnap, .int .i64 p0.fHard.fLog.fBase, .int .i64 p0.fHard.fLog.fBaseTerm, .slice Ap0_1 p0.fHard.fLog.fEntries.length cp0_1, .slice Ap0_2 p0.fVotes.length cp0_2, .slice Ap0_3 p0.fMarks.length cp0_3] 43 (0, 0)) :: H, R, φ⟩ (fun _ h => h) ?_
 refine g_if rfl rfl rfl rfl rfl (fun h3 => ?_) (fun h3 => ?_)
 ·
  replace hm := ite_f hm (of_decide_eq_false h3)
  refine g_v rfl r_move <| g_do rfl rfl rfl rfl rfl h3 <| g_v rfl (r_field (n := 3) Try.underlying43 rfl Try.sizeOf3 rfl rfl) <| g_do rfl rfl rfl rfl rfl h3 <| g_v rfl (r_load (tag := 100030) rfl rfl rfl Try.isAgg3) <| g_do rfl rfl rfl rfl rfl h3 <| g_v rfl (r_gtr rfl rfl) <| g_v rfl (r_pick0 rfl h3) <| g_nil <| d_then ?_
  refine c_flat [(1, .int .i64 p1), (2, .string p2), (3, .pointer (some ⟨g1, 0, none⟩)), (6, .pointer (some ⟨g2, 0, none⟩)), (22, .bool (decide (p0.fCommit < p1)))] ⟨rfl, rfl, rfl, rfl, rfl, trivial⟩ (fun u => ?_)
  refine c_cond rfl (fun h4 => ?_) (fun h4 => ?_)
  ·
   replace hm := ite_t hm (of_decide_eq_true h4)
   refine c_seq <| c_region <| g_v rfl (r_loadA (tag := 100030) rfl rfl Try.isAgg43 Try.sizeOf43 rfl rfl) <| g_storeL (tag := 100060) rfl rfl rfl rfl Try.sizeOf43 rfl rfl <| g_v rfl r_assign <| g_nil <| d_then <| c_ret <| d_ret_then ?_
   cases hm
   exact d_retC (Ap0_0, cp0_0, Ap0_1, cp0_1, Ap0_2, cp0_2, Ap0_3, cp0_3) Try.results28 (res_agg (tag := 100060) rfl rfl Try.isAgg43 Try.sizeOf43 (res_tmp (res_nil rfl))) ⟨hcp0_0, hcp0_1, hcp0_2, hcp0_3⟩ (fun W h => ok_pre (H1 := [_, _]) (R1 := []) h (fun W hφ => ⟨hφ, (fun W h => fp0_0 W h) W hφ, (fun W h => fp0_1 W h) W hφ, (fun W h => fp0_2 W h) W hφ, (fun W h => fp0_3 W h) W hφ⟩)) (.inr rfl)
  replace hm := ite_f hm (of_decide_eq_false h4)
  refine c_skip <| d_then <| c_seq <| c_region <| g_v rfl (r_field (n := 5) Try.underlying43 rfl Try.sizeOf40 rfl rfl) <| g_v rfl (r_field (n := 9) Try.underlying40 rfl Try.sizeOf38 rfl rfl) <| g_v rfl (r_loadA (tag := 100030) rfl rfl Try.isAgg38 Try.sizeOf38 rfl rfl) <| g_v rfl r_move ?_
  replace hm := bnd hm
  obtain ⟨⟨x5, x6⟩, hx7, hm⟩ := hm
  refine g_cn ⟨w0, M, _, _, φ⟩ (fun _ h => h) Try.call50 rfl rfl (c_plog_Cut p0.fHard.fLog Ap0_1 cp0_1 hcp0_1 (fun W hS => fp0_1 W hS.now) p1 _ hx7) (fun ⟨A8, c9⟩ hc9 => ?_)
  refine g_abs (fun φ11 q11' => ?_)
  have q11 : ∀ W, φ11 W → φ W := fun W h => (q11' W h).1
  have f10 := fun (W : World) (h : φ11 W) => (q11' W h).2
  refine g_v rfl r_move <| g_v rfl (r_extract rfl rfl) <| g_v rfl (r_extract rfl rfl) ?_
  refine g_e rfl (e_alloc 100080 Try.zeroValue38) (fun g13 _ => ?_)
  refine g_storeL (tag := 100080) rfl rfl rfl rfl Try.sizeOf38 rfl rfl <| g_v rfl r_assign <| g_nil <| d_then ?_
  refine c_flat [(1, .int .i64 p1), (2, .string p2), (3, .pointer (some ⟨g1, 0, none⟩)), (6, .pointer (some ⟨g2, 0, none⟩)), (8, .pointer (some ⟨g13, 0, none⟩)), (9, .int .i64 x6)] ⟨rfl, rfl, rfl, rfl, rfl, rfl, trivial⟩ (fun u => ?_)
  refine c_sta ⟨w0, M, (100080, g13, .cells #[.int .i64 x5.fBase, .int .i64 x5.fBaseTerm, .slice A8 x5.fEntries.length c9] 38 (0, 0)) :: (100060, g2, .cells #[.int .i64 0, .int .i64 0, .int .i64 0, .int .i64 0, .int .i64 0, .int .i64 0, .int .i64 0, .slice none 0 0, .string (⟨#[]⟩ : ByteArray), .int .i64 0, .int .i64 0, .slice none 0 0, .slice none 0 0, .slice none 0 0] 43 (0, 0)) :: (100030, g1, .cells #[.int .i64 p0.fMe, .int .i64 p0.fRole, .int .i64 p0.fLeader, .int .i64 p0.fCommit, .int .i64 p0.fLeft, .int .i64 p0.fHard.fTerm, .int .i64 p0.fHard.fVote, .slice Ap0_0 p0.fHard.fVoters.length cp0_0, .string p0.fHard.fSnap, .int .i64 p0.fHard.fLog.fBase, .int .i64 p0.fHard.fLog.fBaseTerm, .slice Ap0_1 p0.fHard.fLog.fEntries.length cp0_1, .slice Ap0_2 p0.fVotes.length cp0_2, .slice Ap0_3 p0.fMarks.length cp0_3] 43 (0, 0)) :: H, R, φ11⟩ (fun _ h => h) <| c_seq <| c_block <| c_seq <| c_region <| g_v rfl r_move <| g_v rfl (r_neq rfl rfl) <| g_v rfl r_assign <| g_nil <| d_then ?_
  refine c_cond rfl (fun h14 => ?_) (fun h14 => ?_)
  ·
   replace hm := ite_t hm (of_decide_eq_true h14)
   refine c_seq <| c_region <| g_v rfl (r_loadA (tag := 100030) rfl rfl Try.isAgg43 Try.sizeOf43 rfl rfl) <| g_v rfl r_move <| g_storeL (tag := 100060) rfl rfl rfl rfl Try.sizeOf43 rfl rfl <| g_v rfl r_assign <| g_nil <| d_then <| c_ret <| d_ret_block ?_
   refine d_ret_then ?_
   cases hm
   exact d_retC (Ap0_0, cp0_0, Ap0_1, cp0_1, Ap0_2, cp0_2, Ap0_3, cp0_3) Try.results28 (res_agg (tag := 100060) rfl rfl Try.isAgg43 Try.sizeOf43 (res_tmp (res_nil rfl))) ⟨hcp0_0, hcp0_1, hcp0_2, hcp0_3⟩ (fun W h => ok_pre (H1 := [_, _, _]) (R1 := []) h (fun W hφ => ⟨(q11 _ hφ), (fun W h => fp0_0 W (q11 _ h)) W hφ, (fun W h => fp0_1 W (q11 _ h)) W hφ, (fun W h => fp0_2 W (q11 _ h)) W hφ, (fun W h => fp0_3 W (q11 _ h)) W hφ⟩)) (.inr rfl)
  replace hm := ite_f hm (of_decide_eq_false h14)
  refine c_seq <| c_region <| g_v rfl r_move <| g_v rfl (r_len Try.underlying9 rfl) <| g_v rfl (r_gtr rfl rfl) <| g_v rfl r_assign <| g_nil <| d_then ?_
  refine c_cond rfl (fun h15 => ?_) (fun h15 => ?_)
  ·
   replace hm := ite_t hm (of_decide_eq_true h15)
   refine c_seq <| c_region <| g_v rfl (r_loadA (tag := 100030) rfl rfl Try.isAgg43 Try.sizeOf43 rfl rfl) <| g_storeL (tag := 100060) rfl rfl rfl rfl Try.sizeOf43 rfl rfl <| g_v rfl r_assign <| g_nil <| d_then ?_
   refine c_flat [(6, .pointer (some ⟨g2, 0, none⟩)), (7, .int .i64 11)] ⟨rfl, rfl, trivial⟩ (fun u => ?_)
   refine c_sta ⟨w0, M, (100080, g13, .cells #[.int .i64 x5.fBase, .int .i64 x5.fBaseTerm, .slice A8 x5.fEntries.length c9] 38 (0, 0)) :: (100060, g2, .cells #[.int .i64 p0.fMe, .int .i64 p0.fRole, .int .i64 p0.fLeader, .int .i64 p0.fCommit, .int .i64 p0.fLeft, .int .i64 p0.fHard.fTerm, .int .i64 p0.fHard.fVote, .slice Ap0_0 p0.fHard.fVoters.length cp0_0, .string p0.fHard.fSnap, .int .i64 p0.fHard.fLog.fBase, .int .i64 p0.fHard.fLog.fBaseTerm, .slice Ap0_1 p0.fHard.fLog.fEntries.length cp0_1, .slice Ap0_2 p0.fVotes.length cp0_2, .slice Ap0_3 p0.fMarks.length cp0_3] 43 (0, 0)) :: (100030, g1, .cells #[.int .i64 p0.fMe, .int .i64 p0.fRole, .int .i64 p0.fLeader, .int .i64 p0.fCommit, .int .i64 p0.fLeft, .int .i64 p0.fHard.fTerm, .int .i64 p0.fHard.fVote, .slice Ap0_0 p0.fHard.fVoters.length cp0_0, .string p0.fHard.fSnap, .int .i64 p0.fHard.fLog.fBase, .int .i64 p0.fHard.fLog.fBaseTerm, .slice Ap0_1 p0.fHard.fLog.fEntries.length cp0_1, .slice Ap0_2 p0.fVotes.length cp0_2, .slice Ap0_3 p0.fMarks.length cp0_3] 43 (0, 0)) :: H, R, φ11⟩ (fun _ h => h) <| c_ret <| d_ret_block <| d_ret_then ?_
   cases hm
   exact d_retC (Ap0_0, cp0_0, Ap0_1, cp0_1, Ap0_2, cp0_2, Ap0_3, cp0_3) Try.results28 (res_agg (tag := 100060) rfl rfl Try.isAgg43 Try.sizeOf43 (res_tmp (res_nil rfl))) ⟨hcp0_0, hcp0_1, hcp0_2, hcp0_3⟩ (fun W h => ok_pre (H1 := [_, _, _]) (R1 := []) h (fun W hφ => ⟨(q11 _ hφ), (fun W h => fp0_0 W (q11 _ h)) W hφ, (fun W h => fp0_1 W (q11 _ h)) W hφ, (fun W h => fp0_2 W (q11 _ h)) W hφ, (fun W h => fp0_3 W (q11 _ h)) W hφ⟩)) (.inr rfl)
  replace hm := ite_f hm (of_decide_eq_false h15)
  refine c_skip <| d_normal_block <| d_then <| c_seq <| c_region <| g_v rfl (r_field (n := 5) Try.underlying43 rfl Try.sizeOf40 rfl rfl) <| g_v rfl (r_loadA (tag := 100030) rfl rfl Try.isAgg40 Try.sizeOf40 rfl rfl) ?_
  refine g_e rfl (e_alloc 100100 Try.zeroValue40) (fun g16 _ => ?_)
  refine g_storeL (tag := 100100) rfl rfl rfl rfl Try.sizeOf40 rfl rfl <| g_nil <| d_then ?_
  refine c_flat [(1, .int .i64 p1), (2, .string p2), (3, .pointer (some ⟨g1, 0, none⟩)), (6, .pointer (some ⟨g2, 0, none⟩)), (8, .pointer (some ⟨g13, 0, none⟩)), (10, .pointer (some ⟨g16, 0, none⟩))] ⟨rfl, rfl, rfl, rfl, rfl, rfl, trivial⟩ (fun u => ?_)
  refine c_sta ⟨w0, M, (100100, g16, .cells #[.int .i64 p0.fHard.fTerm, .int .i64 p0.fHard.fVote, .slice Ap0_0 p0.fHard.fVoters.length cp0_0, .string p0.fHard.fSnap, .int .i64 p0.fHard.fLog.fBase, .int .i64 p0.fHard.fLog.fBaseTerm, .slice Ap0_1 p0.fHard.fLog.fEntries.length cp0_1] 40 (0, 0)) :: (100080, g13, .cells #[.int .i64 x5.fBase, .int .i64 x5.fBaseTerm, .slice A8 x5.fEntries.length c9] 38 (0, 0)) :: (100060, g2, .cells #[.int .i64 0, .int .i64 0, .int .i64 0, .int .i64 0, .int .i64 0, .int .i64 0, .int .i64 0, .slice none 0 0, .string (⟨#[]⟩ : ByteArray), .int .i64 0, .int .i64 0, .slice none 0 0, .slice none 0 0, .slice none 0 0] 43 (0, 0)) :: (100030, g1, .cells #[.int .i64 p0.fMe, .int .i64 p0.fRole, .int .i64 p0.fLeader, .int .i64 p0.fCommit, .int .i64 p0.fLeft, .int .i64 p0.fHard.fTerm, .int .i64 p0.fHard.fVote, .slice Ap0_0 p0.fHard.fVoters.length cp0_0, .string p0.fHard.fSnap, .int .i64 p0.fHard.fLog.fBase, .int .i64 p0.fHard.fLog.fBaseTerm, .slice Ap0_1 p0.fHard.fLog.fEntries.length cp0_1, .slice Ap0_2 p0.fVotes.length cp0_2, .slice Ap0_3 p0.fMarks.length cp0_3] 43 (0, 0)) :: H, R, φ11⟩ (fun _ h => h) <| c_seq <| c_region <| g_v rfl (r_field (n := 4) Try.underlying40 rfl Try.sizeOf38 rfl rfl) <| g_v rfl (r_field (n := 6) Try.underlying38 rfl Try.sizeOf22 rfl rfl) <| g_v rfl (r_load (tag := 100100) rfl rfl rfl Try.isAgg22) <| g_v rfl r_move <| g_v rfl (r_field (n := 4) Try.underlying40 rfl Try.sizeOf38 rfl rfl) <| g_v rfl (r_field (n := 4) Try.underlying38 rfl Try.sizeOf3 rfl rfl) <| g_v rfl (r_load (tag := 100100) rfl rfl rfl Try.isAgg3) ?_
  refine g_v rfl (r_sub rfl rfl rfl) ?_
  replace hm := bnd hm
  obtain ⟨l18, hl18, hm⟩ := hm
  have f17 := fun (W : World) (h : φ W) => cl_cutHi (enc := GEntry.enc) (sz := 3) (fun _ => rfl) hl18 (fp0_1 W h)
  refine g_v rfl (r_lcutHi Try.underlying22 Try.sizeOf36 rfl hcp0_1 rfl hl18) <| g_v rfl (r_field (n := 4) Try.underlying40 rfl Try.sizeOf38 rfl rfl) <| g_v rfl (r_field (n := 6) Try.underlying38 rfl Try.sizeOf22 rfl rfl) <| g_storeL (tag := 100100) rfl rfl rfl rfl Try.sizeOf22 rfl rfl <| g_nil <| d_then ?_
  refine c_flat [(2, .string p2), (3, .pointer (some ⟨g1, 0, none⟩)), (6, .pointer (some ⟨g2, 0, none⟩)), (8, .pointer (some ⟨g13, 0, none⟩)), (10, .pointer (some ⟨g16, 0, none⟩))] ⟨rfl, rfl, rfl, rfl, rfl, trivial⟩ (fun u => ?_)
  refine c_sta ⟨w0, M, (100100, g16, .cells #[.int .i64 p0.fHard.fTerm, .int .i64 p0.fHard.fVote, .slice Ap0_0 p0.fHard.fVoters.length cp0_0, .string p0.fHard.fSnap, .int .i64 p0.fHard.fLog.fBase, .int .i64 p0.fHard.fLog.fBaseTerm, .slice Ap0_1 l18.length cp0_1] 40 (0, 0)) :: (100080, g13, .cells #[.int .i64 x5.fBase, .int .i64 x5.fBaseTerm, .slice A8 x5.fEntries.length c9] 38 (0, 0)) :: (100060, g2, .cells #[.int .i64 0, .int .i64 0, .int .i64 0, .int .i64 0, .int .i64 0, .int .i64 0, .int .i64 0, .slice none 0 0, .string (⟨#[]⟩ : ByteArray), .int .i64 0, .int .i64 0, .slice none 0 0, .slice none 0 0, .slice none 0 0] 43 (0, 0)) :: (100030, g1, .cells #[.int .i64 p0.fMe, .int .i64 p0.fRole, .int .i64 p0.fLeader, .int .i64 p0.fCommit, .int .i64 p0.fLeft, .int .i64 p0.fHard.fTerm, .int .i64 p0.fHard.fVote, .slice Ap0_0 p0.fHard.fVoters.length cp0_0, .string p0.fHard.fSnap, .int .i64 p0.fHard.fLog.fBase, .int .i64 p0.fHard.fLog.fBaseTerm, .slice Ap0_1 p0.fHard.fLog.fEntries.length cp0_1, .slice Ap0_2 p0.fVotes.length cp0_2, .slice Ap0_3 p0.fMarks.length cp0_3] 43 (0, 0)) :: H, R, φ11⟩ (fun _ h => h) <| c_seq <| ga_start (n := 13) ⟨w0, M, (100100, g16, .cells #[.int .i64 p0.fHard.fTerm, .int .i64 p0.fHard.fVote, .slice Ap0_0 p0.fHard.fVoters.length cp0_0, .string p0.fHard.fSnap, .int .i64 p0.fHard.fLog.fBase, .int .i64 p0.fHard.fLog.fBaseTerm, .slice Ap0_1 l18.length cp0_1] 40 (0, 0)) :: (100080, g13, .cells #[.int .i64 x5.fBase, .int .i64 x5.fBaseTerm, .slice A8 x5.fEntries.length c9] 38 (0, 0)) :: (100060, g2, .cells #[.int .i64 0, .int .i64 0, .int .i64 0, .int .i64 0, .int .i64 0, .int .i64 0, .int .i64 0, .slice none 0 0, .string (⟨#[]⟩ : ByteArray), .int .i64 0, .int .i64 0, .slice none 0 0, .slice none 0 0, .slice none 0 0] 43 (0, 0)) :: H, R, φ11⟩ [] #[false, false, false, false, false, false, false, false, false, false, false, false, false] (fun W h => (h.dropH (t := 100030) rfl).phi (fun W hφ => hφ)) mixed rfl rfl <| ga_v (i := 0) (bz 13 1) rfl (by kernel_rfl) (fun _ _ _ _ h => h) rfl (r_loadA (tag := 100100) rfl rfl Try.isAgg40 Try.sizeOf40 rfl rfl) <| ga_v (i := 2) (bz 13 5) rfl (by kernel_rfl) (fun _ _ _ _ h => h) rfl (r_move) <| ga_v (i := 3) (bz 13 13) rfl (by kernel_rfl) (fun _ _ _ _ h => h) rfl (r_loadA (tag := 100080) rfl rfl Try.isAgg38 Try.sizeOf38 rfl rfl) ?_
  replace hm := bnd hm
  obtain ⟨x29, hx30, hm⟩ := hm
  refine ga_cn (first := #[]) (i := 1) (bz 13 15) rfl (by kernel_rfl) (by decide)  ⟨w0, M, _, _, φ11⟩ (fun _ h => h) Try.call51 rfl rfl rfl (c_plog_Now (⟨p0.fHard.fTerm, p0.fHard.fVote, p0.fHard.fVoters, p0.fHard.fSnap, (⟨p0.fHard.fLog.fBase, p0.fHard.fLog.fBaseTerm, l18⟩ : GLog)⟩ : GHard) Ap0_0 cp0_0 hcp0_0 (fun W hS => fp0_0 W (q11 _ hS.now)) Ap0_1 cp0_1 (cutHi_len hcp0_1 hl18) (fun W hS => f17 W (q11 _ hS.now)) _ hx30) (fun ⟨A31, c32⟩ W hc32 h => (((ok_frontR (t := 2000) (t' := 100560) h rfl).dropR (t := 100560) rfl).dropH (t := 100030) rfl).phi (fun W hφ => hφ)) (fun ⟨A31, c32⟩ hc32 => ?_)
  refine ga_sta _ (fun W h => (ok_frontR (t := 2000) (t' := 100560) h rfl)) <| ga_r (i := 4) (bz 13 31) rfl (by kernel_rfl) (by decide) rfl (r_field (n := 5) Try.underlying43 rfl Try.sizeOf40 rfl rfl) <| ga_r (i := 5) (bz 13 63) rfl (by kernel_rfl) (by decide) rfl (r_field (n := 7) Try.underlying40 rfl Try.sizeOf23 rfl rfl) <| ga_storeN (i := 6) (tag := 100030) (bz 13 127) rfl (by kernel_rfl) (by decide) rfl rfl rfl rfl Try.sizeOf23 rfl rfl (fun W h => ((h.dropR (t := 100560) rfl).dropH (t := 100030) rfl).phi (fun W hφ => hφ)) <| ga_r (i := 7) (bz 13 255) rfl (by kernel_rfl) (by decide) rfl (r_field (n := 5) Try.underlying43 rfl Try.sizeOf40 rfl rfl) <| ga_r (i := 8) (bz 13 511) rfl (by kernel_rfl) (by decide) rfl (r_field (n := 8) Try.underlying40 rfl Try.sizeOf9 rfl rfl) <| ga_storeN (i := 9) (tag := 100030) (bz 13 1023) rfl (by kernel_rfl) (by decide) rfl rfl rfl rfl Try.sizeOf9 rfl rfl (fun W h => ((h.dropR (t := 100560) rfl).dropH (t := 100030) rfl).phi (fun W hφ => hφ)) <| ga_r (i := 10) (bz 13 2047) rfl (by kernel_rfl) (by decide) rfl (r_field (n := 5) Try.underlying43 rfl Try.sizeOf40 rfl rfl) <| ga_r (i := 11) (bz 13 4095) rfl (by kernel_rfl) (by decide) rfl (r_field (n := 9) Try.underlying40 rfl Try.sizeOf38 rfl rfl) <| ga_storeN (i := 12) (tag := 100030) (bz 13 8191) rfl (by kernel_rfl) (by decide) rfl rfl rfl rfl Try.sizeOf38 rfl rfl (fun W h => ((h.dropR (t := 100560) rfl).dropH (t := 100030) rfl).phi (fun W hφ => hφ)) ?_
  refine ga_done (by kernel_rfl) <| d_then ?_
  refine c_flat [(3, .pointer (some ⟨g1, 0, none⟩)), (6, .pointer (some ⟨g2, 0, none⟩))] ⟨rfl, rfl, trivial⟩ (fun u => ?_)
  refine c_sta ⟨w0, M, (100100, g16, .cells #[.int .i64 p0.fHard.fTerm, .int .i64 p0.fHard.fVote, .slice Ap0_0 p0.fHard.fVoters.length cp0_0, .string p0.fHard.fSnap, .int .i64 p0.fHard.fLog.fBase, .int .i64 p0.fHard.fLog.fBaseTerm, .slice Ap0_1 l18.length cp0_1] 40 (0, 0)) :: (100080, g13, .cells #[.int .i64 x5.fBase, .int .i64 x5.fBaseTerm, .slice A8 x5.fEntries.length c9] 38 (0, 0)) :: (100060, g2, .cells #[.int .i64 0, .int .i64 0, .int .i64 0, .int .i64 0, .int .i64 0, .int .i64 0, .int .i64 0, .slice none 0 0, .string (⟨#[]⟩ : ByteArray), .int .i64 0, .int .i64 0, .slice none 0 0, .slice none 0 0, .slice none 0 0] 43 (0, 0)) :: (100030, g1, .cells #[.int .i64 p0.fMe, .int .i64 p0.fRole, .int .i64 p0.fLeader, .int .i64 p0.fCommit, .int .i64 p0.fLeft, .int .i64 p0.fHard.fTerm, .int .i64 p0.fHard.fVote, .slice A31 x29.length c32, .string p2, .int .i64 x5.fBase, .int .i64 x5.fBaseTerm, .slice A8 x5.fEntries.length c9, .slice Ap0_2 p0.fVotes.length cp0_2, .slice Ap0_3 p0.fMarks.length cp0_3] 43 (0, 0)) :: H, (100560, ⟨.slice A31 x29.length c32, 3, 1, x29.length, x29.flatMap (fun x : Int => [Value.int .i64 x])⟩) :: R, φ11⟩ (fun _ h => h) <| c_seq <| c_region <| g_v rfl (r_loadA (tag := 100030) rfl rfl Try.isAgg43 Try.sizeOf43 rfl rfl) <| g_storeL (tag := 100060) rfl rfl rfl rfl Try.sizeOf43 rfl rfl <| g_v rfl r_assign <| g_nil <| d_then <| c_ret ?_
  cases hm
  refine d_shut (tag := 100560) rfl (fun φ34 q34' => ?_)
  have q34 : ∀ W, φ34 W → φ11 W := fun W h => (q34' W h).1
  have f35 := fun (W : World) (h : φ34 W) => (q34' W h).2
  exact d_retC (A31, c32, A8, c9, Ap0_2, cp0_2, Ap0_3, cp0_3) Try.results28 (res_agg (tag := 100060) rfl rfl Try.isAgg43 Try.sizeOf43 (res_tmp (res_nil rfl))) ⟨hc32, hc9, hcp0_2, hcp0_3⟩ (fun W h => ok_pre (H1 := [_, _, _, _]) (R1 := []) h (fun W hφ => ⟨(q11 _ (q34 _ hφ)), (fun W h => f35 W h) W hφ, (fun W h => f10 W (q34 _ h)) W hφ, (fun W h => fp0_2 W (q11 _ (q34 _ h))) W hφ, (fun W h => fp0_3 W (q11 _ (q34 _ h))) W hφ⟩)) (.inr rfl)
 replace hm := ite_t hm (of_decide_eq_true h3)
 iterate 3 refine g_no rfl rfl rfl rfl rfl h3 ?_
 refine g_v rfl (r_pick1 rfl h3) <| g_nil <| d_then ?_
 refine c_flat [(1, .int .i64 p1), (2, .string p2), (3, .pointer (some ⟨g1, 0, none⟩)), (6, .pointer (some ⟨g2, 0, none⟩)), (22, .bool true)] ⟨rfl, rfl, rfl, rfl, rfl, trivial⟩ (fun u => ?_)
 refine c_cond1 rfl rfl <| c_seq <| c_region <| g_v rfl (r_loadA (tag := 100030) rfl rfl Try.isAgg43 Try.sizeOf43 rfl rfl) <| g_storeL (tag := 100060) rfl rfl rfl rfl Try.sizeOf43 rfl rfl <| g_v rfl r_assign <| g_nil <| d_then <| c_ret <| d_ret_then ?_
 cases hm
 exact d_retC (Ap0_0, cp0_0, Ap0_1, cp0_1, Ap0_2, cp0_2, Ap0_3, cp0_3) Try.results28 (res_agg (tag := 100060) rfl rfl Try.isAgg43 Try.sizeOf43 (res_tmp (res_nil rfl))) ⟨hcp0_0, hcp0_1, hcp0_2, hcp0_3⟩ (fun W h => ok_pre (H1 := [_, _]) (R1 := []) h (fun W hφ => ⟨hφ, (fun W h => fp0_0 W h) W hφ, (fun W h => fp0_1 W h) W hφ, (fun W h => fp0_2 W h) W hφ, (fun W h => fp0_3 W h) W hφ⟩)) (.inr rfl)
theorem eqq36 (a b : GEntry) : ∀ d W, (Op.equalIn (d + 5) 36 (.agg #[.int .i64 a.fTerm, .int .i64 a.fKind, .string a.fData]) (.agg #[.int .i64 b.fTerm, .int .i64 b.fKind, .string b.fData])).run Try.prog W = .ok (decide (a = b)) W := by
  intro d W
  have h := eqs_of (d := d + 4) (xs := #[.int .i64 a.fTerm, .int .i64 a.fKind, .string a.fData]) (ys := #[.int .i64 b.fTerm, .int .i64 b.fKind, .string b.fData]) (w := W) Try.underlying36 (by kernel_rfl) (eqs_cons (a := .int .i64 a.fTerm) (b := .int .i64 b.fTerm) rfl (by kernel_rfl) (by kernel_rfl) (eqs_int Try.underlying3) (eqs_cons (a := .int .i64 a.fKind) (b := .int .i64 b.fKind) rfl (by kernel_rfl) (by kernel_rfl) (eqs_int Try.underlying3) (eqs_cons (a := .string a.fData) (b := .string b.fData) rfl (by kernel_rfl) (by kernel_rfl) (eqs_str Try.underlying9) eqs_nil)))
  refine h.trans ?_
  congr 1
  cases a; cases b
  simp only [GEntry.mk.injEq, Bool.and_true]
  simp only [Bool.decide_and]
theorem eqg36 : Try.prog.eqGuardType Try.prog.depth 36 = false := by kernel_rfl
noncomputable def m_ref11_SameLog_j1  : Option Bool :=
  some true
noncomputable def m_ref11_SameLog_s2 (p0 : GLog) (p1 : GLog) (i89 : Int) : Option (Int ⊕ (Unit ⊕ Bool)) :=
  if i89 < (p0.fEntries.length : Int) then
    (at_ p0.fEntries i89).bind fun x135 =>
    (at_ p1.fEntries i89).bind fun x139 =>
    if x135 = x139 then
      some (.inl (w64 (i89 + 1)))
    else
      some (.inr (.inr false))
  else
    some (.inr (.inl ()))
noncomputable def m_ref11_SameLog (p0 : GLog) (p1 : GLog) : Option Bool :=
  if p0.fBase ≠ p1.fBase then
    some false
  else
    if p0.fBaseTerm ≠ p1.fBaseTerm then
      some false
    else
      if (p0.fEntries.length : Int) ≠ (p1.fEntries.length : Int) then
        some false
      else
        (loop (fun s => m_ref11_SameLog_s2 p0 p1 s) 0).bind fun e => Sum.elim (fun e => m_ref11_SameLog_j1) (fun x => some x) e
theorem c_ref11_SameLog {w0 : World} {M : Nat → Prop} {H : List (Nat × Nat × Obj)} {R : List (Nat × Row)} {φ : World → Prop} (p0 : GLog) (Ap0_0 : Option Addr) (cp0_0 : Nat) (hcp0_0 : p0.fEntries.length ≤ cp0_0) (fp0_0 : ∀ W, (Sta.mk w0 M H R φ).ok W → Cl W Ap0_0 (p0.fEntries.flatMap GEntry.enc)) (p1 : GLog) (Ap1_0 : Option Addr) (cp1_0 : Nat) (hcp1_0 : p1.fEntries.length ≤ cp1_0) (fp1_0 : ∀ W, (Sta.mk w0 M H R φ).ok W → Cl W Ap1_0 (p1.fEntries.flatMap GEntry.enc)) (r : Bool) (hm : m_ref11_SameLog p0 p1 = some r) :
    Cn Try.prog 76 #[.agg #[.int .i64 p0.fBase, .int .i64 p0.fBaseTerm, .slice Ap0_0 p0.fEntries.length cp0_0], .agg #[.int .i64 p1.fBase, .int .i64 p1.fBaseTerm, .slice Ap1_0 p1.fEntries.length cp1_0]] ⟨w0, M, H, R, φ⟩ (fun x : Unit => .bool r) (fun x => True) (fun x => ⟨w0, M, H, R, φ⟩) := by
 unfold m_ref11_SameLog at hm
 refine cn_intro (fn := Try.f76) (N := 45) Try.func76 rfl Try.ntmps76 rfl <| c_seq <| c_region ?_
 refine g_e rfl (e_box 100020 rfl) (fun g1 _ => ?_)
 refine g_e rfl (e_box 100030 rfl) (fun g2 _ => ?_)
 refine g_v rfl r_assign <| g_nil <| d_then <| c_seq <| c_seq <| c_region <| g_v rfl (r_field (n := 0) Try.underlying38 rfl Try.sizeOf3 rfl rfl) <| g_v rfl (r_load (tag := 100020) rfl rfl rfl Try.isAgg3) <| g_v rfl (r_field (n := 0) Try.underlying38 rfl Try.sizeOf3 rfl rfl) <| g_v rfl (r_load (tag := 100030) rfl rfl rfl Try.isAgg3) ?_
 refine g_v rfl (r_neq rfl rfl) <| g_v rfl r_move <| g_sta ⟨w0, M, (100030, g2, .cells #[.int .i64 p1.fBase, .int .i64 p1.fBaseTerm, .slice Ap1_0 p1.fEntries.length cp1_0] 38 (0, 0)) :: (100020, g1, .cells #[.int .i64 p0.fBase, .int .i64 p0.fBaseTerm, .slice Ap0_0 p0.fEntries.length cp0_0] 38 (0, 0)) :: H, R, φ⟩ (fun _ h => h) ?_
 refine g_if rfl rfl rfl rfl rfl (fun h3 => ?_) (fun h3 => ?_)
 ·
  replace hm := ite_f hm (of_decide_eq_false h3)
  refine g_v rfl (r_field (n := 1) Try.underlying38 rfl Try.sizeOf3 rfl rfl) <| g_do rfl rfl rfl rfl rfl h3 <| g_v rfl (r_load (tag := 100020) rfl rfl rfl Try.isAgg3) <| g_do rfl rfl rfl rfl rfl h3 <| g_v rfl (r_field (n := 1) Try.underlying38 rfl Try.sizeOf3 rfl rfl) <| g_do rfl rfl rfl rfl rfl h3 <| g_v rfl (r_load (tag := 100030) rfl rfl rfl Try.isAgg3) <| g_do rfl rfl rfl rfl rfl h3 <| g_v rfl (r_neq rfl rfl) <| g_v rfl (r_pick0 rfl h3) ?_
  refine g_v rfl r_move ?_
  refine g_if rfl rfl rfl rfl rfl (fun h4 => ?_) (fun h4 => ?_)
  ·
   replace hm := ite_f hm (of_decide_eq_false h4)
   refine g_v rfl (r_field (n := 2) Try.underlying38 rfl Try.sizeOf22 rfl rfl) <| g_do rfl rfl rfl rfl rfl h4 <| g_v rfl (r_load (tag := 100020) rfl rfl rfl Try.isAgg22) <| g_do rfl rfl rfl rfl rfl h4 <| g_v rfl (r_lenL Try.underlying22 rfl) <| g_do rfl rfl rfl rfl rfl h4 <| g_v rfl (r_field (n := 2) Try.underlying38 rfl Try.sizeOf22 rfl rfl) <| g_do rfl rfl rfl rfl rfl h4 <| g_v rfl (r_load (tag := 100030) rfl rfl rfl Try.isAgg22) <| g_do rfl rfl rfl rfl rfl h4 ?_
   refine g_v rfl (r_lenL Try.underlying22 rfl) <| g_do rfl rfl rfl rfl rfl h4 <| g_v rfl (r_neq rfl rfl) <| g_v rfl (r_pick0 rfl h4) <| g_nil <| d_then ?_
   refine c_flat [(2, .pointer (some ⟨g1, 0, none⟩)), (3, .pointer (some ⟨g2, 0, none⟩)), (26, .bool (decide ((p0.fEntries.length : Int) ≠ (p1.fEntries.length : Int))))] ⟨rfl, rfl, rfl, trivial⟩ (fun u => ?_)
   refine c_cond rfl (fun h5 => ?_) (fun h5 => ?_)
   ·
    replace hm := ite_t hm (of_decide_eq_true h5)
    refine c_seq <| c_region <| g_v rfl r_assign <| g_nil <| d_then <| c_ret <| d_ret_then ?_
    cases hm
    exact d_retC () Try.results76 (res_tmp (res_nil rfl)) trivial (fun W h => ok_pre (H1 := [_, _]) (R1 := []) h (fun W hφ => hφ)) (.inr rfl)
   replace hm := ite_f hm (of_decide_eq_false h5)
   refine c_skip <| d_then <| c_seq <| c_seq <| c_region <| g_v rfl r_assign <| g_nil <| d_then ?_
   refine c_cut (ι := Unit) [] (fun _ => []) (fun _ => ⟨w0, M, H, R, φ⟩) (fun _ => m_ref11_SameLog_j1 = some r) ?_ (fun _ u hm => ?_)
   ·
    refine c_block ?_
    replace hm := bnd hm
    obtain ⟨out2, hl2, hr2⟩ := hm
    obtain ⟨n117', hl2⟩ := loop_lp hl2
    refine c_loopU (ι := Nat × Int) [2, 3, 5] (fun ⟨n117, i89⟩ => [(5, .int .i64 i89)]) (fun ⟨n117, i89⟩ => ⟨w0, M, (100030, g2, .cells #[.int .i64 p1.fBase, .int .i64 p1.fBaseTerm, .slice Ap1_0 p1.fEntries.length cp1_0] 38 (0, 0)) :: (100020, g1, .cells #[.int .i64 p0.fBase, .int .i64 p0.fBaseTerm, .slice Ap0_0 p0.fEntries.length cp0_0] 38 (0, 0)) :: H, R, φ⟩) (fun ⟨n117, i89⟩ => Lp (fun s => m_ref11_SameLog_s2 p0 p1 s) n117 i89 out2) (fun ⟨n117, i89⟩ => n117) (n117', 0) hl2 ⟨rfl, rfl, rfl, trivial⟩ (fun W h => h.phi (fun W hφ => hφ)) (fun ⟨n117, i89⟩ u hlp => ?_)
    obtain ⟨o2, hm, hnx2⟩ := lp_step hlp
    clear hlp
    replace hm : m_ref11_SameLog_s2 p0 p1 i89 = some o2 := hm
    unfold m_ref11_SameLog_s2 at hm
    refine c_flat [(2, .pointer (some ⟨g1, 0, none⟩)), (3, .pointer (some ⟨g2, 0, none⟩)), (5, .int .i64 i89)] ⟨rfl, rfl, rfl, trivial⟩ (fun u => ?_)
    refine c_seq <| c_seq <| c_region <| g_v rfl r_move <| g_v rfl (r_field (n := 2) Try.underlying38 rfl Try.sizeOf22 rfl rfl) <| g_v rfl (r_load (tag := 100020) rfl rfl rfl Try.isAgg22) <| g_v rfl (r_lenL Try.underlying22 rfl) <| g_v rfl (r_lss rfl rfl) <| g_nil <| d_then ?_
    refine c_cond rfl (fun h118 => ?_) (fun h118 => ?_)
    ·
     replace hm := ite_t hm (of_decide_eq_true h118)
     refine c_skip <| d_then <| c_seq <| c_block <| c_seq <| ga_start (n := 11) ⟨w0, M, (100030, g2, .cells #[.int .i64 p1.fBase, .int .i64 p1.fBaseTerm, .slice Ap1_0 p1.fEntries.length cp1_0] 38 (0, 0)) :: (100020, g1, .cells #[.int .i64 p0.fBase, .int .i64 p0.fBaseTerm, .slice Ap0_0 p0.fEntries.length cp0_0] 38 (0, 0)) :: H, R, φ⟩ [] #[false, false, false, false, false, false, false, false, false, false, false] (fun W h => h.phi (fun W hφ => hφ)) mixed rfl rfl <| ga_v (i := 0) (bz 11 1) rfl (by kernel_rfl) (fun _ _ _ _ h => h) rfl (r_field (n := 2) Try.underlying38 rfl Try.sizeOf22 rfl rfl) <| ga_v (i := 1) (bz 11 3) rfl (by kernel_rfl) (fun _ _ _ _ h => h) rfl (r_load (tag := 100020) rfl rfl rfl Try.isAgg22) <| ga_v (i := 2) (bz 11 7) rfl (by kernel_rfl) (fun _ _ _ _ h => h) rfl (r_move) ?_
     replace hm := bnd hm
     obtain ⟨x135, hx135, hm⟩ := hm
     refine ga_know _ (fun W hS => cl_at (p := (Sta.mk w0 M H R φ).ok) (sz := 3) (fun _ => rfl) (by decide) (ok_pre (H1 := [_, _]) (R1 := []) hS (fun W h => h)) fp0_0 hx135) ?_
     rintro ⟨ad136, hA138, f137⟩
     refine ga_v (i := 3) (bz 11 15) rfl (by kernel_rfl) (fun _ _ _ _ h => h) rfl (r_ix Try.underlying22 Try.sizeOf36 rfl hA138 rfl hx135) <| ga_v (i := 4) (bz 11 31) rfl (by kernel_rfl) (fun _ _ _ _ h => h) rfl (r_ldA rfl Try.isAgg36 Try.sizeOf36 (fun W hS => (f137 W (ok_pre (H1 := [_, _]) (R1 := []) hS (fun W h => h))).take 3) rfl) <| ga_v (i := 5) (bz 11 63) rfl (by kernel_rfl) (fun _ _ _ _ h => h) rfl (r_field (n := 2) Try.underlying38 rfl Try.sizeOf22 rfl rfl) <| ga_v (i := 6) (bz 11 127) rfl (by kernel_rfl) (fun _ _ _ _ h => h) rfl (r_load (tag := 100030) rfl rfl rfl Try.isAgg22) <| ga_r (i := 7) (bz 11 255) rfl (by kernel_rfl) (by decide) rfl (r_move) ?_
     replace hm := bnd hm
     obtain ⟨x139, hx139, hm⟩ := hm
     refine ga_know _ (fun W hS => cl_at (p := (Sta.mk w0 M H R φ).ok) (sz := 3) (fun _ => rfl) (by decide) (ok_pre (H1 := [_, _]) (R1 := []) hS (fun W h => h)) fp1_0 hx139) ?_
     rintro ⟨ad140, hA142, f141⟩
     refine ga_r (i := 8) (bz 11 511) rfl (by kernel_rfl) (by decide) rfl (r_ix Try.underlying22 Try.sizeOf36 rfl hA142 rfl hx139) <| ga_r (i := 9) (bz 11 1023) rfl (by kernel_rfl) (by decide) rfl (r_ldA rfl Try.isAgg36 Try.sizeOf36 (fun W hS => (f141 W (ok_pre (H1 := [_, _]) (R1 := []) hS (fun W h => h))).take 3) rfl) <| ga_r (i := 10) (bz 11 2047) rfl (by kernel_rfl) (by decide) rfl (r_neqA rfl rfl eqg36 (eqq36 x135 x139)) <| ga_done (by kernel_rfl) <| d_then ?_
     refine c_flat [(2, .pointer (some ⟨g1, 0, none⟩)), (3, .pointer (some ⟨g2, 0, none⟩)), (5, .int .i64 i89), (44, .bool (!(decide (x135 = x139))))] ⟨rfl, rfl, rfl, rfl, trivial⟩ (fun u => ?_)
     refine c_cond rfl (fun h143 => ?_) (fun h143 => ?_)
     ·
      have h143' : (decide (x135 = x139)) = false := by revert h143; cases (decide (x135 = x139)) <;> simp
      replace hm := ite_f hm (of_decide_eq_false h143')
      refine c_seq <| c_region <| g_v rfl r_assign <| g_nil <| d_then <| c_ret <| d_ret_block <| d_ret_then <| d_ret_then <| d_ret_block ?_
      refine d_ret_then <| d_ret_then ?_
      replace hm := nx_out (C := (fun e : Unit ⊕ Bool => Sum.elim (fun e => m_ref11_SameLog_j1) (fun x => some x) e = some r)) hm hnx2 hr2
      replace hm : some false = some r := hm
      cases hm
      exact d_retC () Try.results76 (res_tmp (res_nil rfl)) trivial (fun W h => ok_pre (H1 := [_, _]) (R1 := []) h (fun W hφ => hφ)) (.inr rfl)
     have h143' : (decide (x135 = x139)) = true := by revert h143; cases (decide (x135 = x139)) <;> simp
     replace hm := ite_t hm (of_decide_eq_true h143')
     refine c_skip <| d_normal_block <| d_then <| c_region <| g_v rfl r_move <| g_v rfl (r_add rfl rfl rfl) <| g_v rfl r_assign <| g_nil ?_
     obtain ⟨n144, hn144, hlp⟩ := nx_inl hm hnx2
     exact d_round (n144, w64 (i89 + 1)) hlp hn144 ⟨rfl, rfl, rfl, trivial⟩ (fun W h => h.phi (fun W hφ => hφ))
    replace hm := ite_f hm (of_decide_eq_false h118)
    refine c_exit <| d_exit_then <| d_exit_then <| d_exit_block ?_
    replace hm := nx_out (C := (fun e : Unit ⊕ Bool => Sum.elim (fun e => m_ref11_SameLog_j1) (fun x => some x) e = some r)) hm hnx2 hr2
    exact d_round () hm Nat.zero_lt_one trivial (fun W h => ((h.dropH (t := 100030) rfl).dropH (t := 100020) rfl).phi (fun W hφ => hφ))
   unfold m_ref11_SameLog_j1 at hm
   refine d_flat [] trivial (fun u => ?_)
   refine d_sta ⟨w0, M, H, R, φ⟩ (fun _ h => h) <| d_then <| c_seq <| c_region <| g_v rfl r_assign <| g_nil <| d_then <| c_ret ?_
   cases hm
   exact d_retC () Try.results76 (res_tmp (res_nil rfl)) trivial (fun W h => ok_pre (H1 := []) (R1 := []) h (fun W hφ => hφ)) (.inr rfl)
  replace hm := ite_t hm (of_decide_eq_true h4)
  iterate 6 refine g_no rfl rfl rfl rfl rfl h4 ?_
  refine g_v rfl (r_pick1 rfl h4) <| g_nil <| d_then ?_
  refine c_flat [(2, .pointer (some ⟨g1, 0, none⟩)), (3, .pointer (some ⟨g2, 0, none⟩)), (26, .bool true)] ⟨rfl, rfl, rfl, trivial⟩ (fun u => ?_)
  refine c_cond1 rfl rfl <| c_seq <| c_region <| g_v rfl r_assign <| g_nil <| d_then <| c_ret <| d_ret_then ?_
  cases hm
  exact d_retC () Try.results76 (res_tmp (res_nil rfl)) trivial (fun W h => ok_pre (H1 := [_, _]) (R1 := []) h (fun W hφ => hφ)) (.inr rfl)
 replace hm := ite_t hm (of_decide_eq_true h3)
 iterate 4 refine g_no rfl rfl rfl rfl rfl h3 ?_
 refine g_v rfl (r_pick1 rfl h3) <| g_v rfl r_move ?_
 iterate 7 refine g_no rfl rfl rfl rfl rfl rfl ?_
 refine g_v rfl (r_pick1 rfl rfl) <| g_nil <| d_then ?_
 refine c_flat [(2, .pointer (some ⟨g1, 0, none⟩)), (3, .pointer (some ⟨g2, 0, none⟩)), (26, .bool true)] ⟨rfl, rfl, rfl, trivial⟩ (fun u => ?_)
 refine c_cond1 rfl rfl <| c_seq <| c_region <| g_v rfl r_assign <| g_nil <| d_then <| c_ret <| d_ret_then ?_
 cases hm
 exact d_retC () Try.results76 (res_tmp (res_nil rfl)) trivial (fun W h => ok_pre (H1 := [_, _]) (R1 := []) h (fun W hφ => hφ)) (.inr rfl)
noncomputable def m_ref11_SameInts_j1  : Option Bool :=
  some true
noncomputable def m_ref11_SameInts_s2 (p0 : List Int) (p1 : List Int) (i85 : Int) : Option (Int ⊕ (Unit ⊕ Bool)) :=
  if i85 < (p0.length : Int) then
    (at_ p0 i85).bind fun x131 =>
    (at_ p1 i85).bind fun x135 =>
    if x131 ≠ x135 then
      some (.inr (.inr false))
    else
      some (.inl (w64 (i85 + 1)))
  else
    some (.inr (.inl ()))
noncomputable def m_ref11_SameInts (p0 : List Int) (p1 : List Int) : Option Bool :=
  if (p0.length : Int) ≠ (p1.length : Int) then
    some false
  else
    (loop (fun s => m_ref11_SameInts_s2 p0 p1 s) 0).bind fun e => Sum.elim (fun e => m_ref11_SameInts_j1) (fun x => some x) e
theorem c_ref11_SameInts {w0 : World} {M : Nat → Prop} {H : List (Nat × Nat × Obj)} {R : List (Nat × Row)} {φ : World → Prop} (p0 : List Int) (Ap0_0 : Option Addr) (cp0_0 : Nat) (hcp0_0 : p0.length ≤ cp0_0) (fp0_0 : ∀ W, (Sta.mk w0 M H R φ).ok W → Cl W Ap0_0 (p0.flatMap (fun x : Int => [Value.int .i64 x]))) (p1 : List Int) (Ap1_0 : Option Addr) (cp1_0 : Nat) (hcp1_0 : p1.length ≤ cp1_0) (fp1_0 : ∀ W, (Sta.mk w0 M H R φ).ok W → Cl W Ap1_0 (p1.flatMap (fun x : Int => [Value.int .i64 x]))) (r : Bool) (hm : m_ref11_SameInts p0 p1 = some r) :
    Cn Try.prog 30 #[.slice Ap0_0 p0.length cp0_0, .slice Ap1_0 p1.length cp1_0] ⟨w0, M, H, R, φ⟩ (fun x : Unit => .bool r) (fun x => True) (fun x => ⟨w0, M, H, R, φ⟩) := by
 unfold m_ref11_SameInts at hm
 refine cn_intro (fn := Try.f30) (N := 26) Try.func30 rfl Try.ntmps30 rfl <| c_seq <| c_region <| g_v rfl r_assign <| g_nil <| d_then <| c_seq <| c_seq <| c_region <| g_v rfl r_move ?_
 refine g_v rfl (r_lenL Try.underlying23 rfl) <| g_v rfl r_move <| g_v rfl (r_lenL Try.underlying23 rfl) <| g_v rfl (r_neq rfl rfl) <| g_nil <| d_then ?_
 refine c_cond rfl (fun h1 => ?_) (fun h1 => ?_)
 ·
  replace hm := ite_t hm (of_decide_eq_true h1)
  refine c_seq <| c_region <| g_v rfl r_assign <| g_nil <| d_then <| c_ret <| d_ret_then ?_
  cases hm
  exact d_retC () Try.results30 (res_tmp (res_nil rfl)) trivial (fun W h => ok_pre (H1 := []) (R1 := []) h (fun W hφ => hφ)) (.inr rfl)
 replace hm := ite_f hm (of_decide_eq_false h1)
 refine c_skip <| d_then <| c_seq <| c_seq <| c_region <| g_v rfl r_assign <| g_nil <| d_then ?_
 refine c_cut (ι := Unit) [] (fun _ => []) (fun _ => ⟨w0, M, H, R, φ⟩) (fun _ => m_ref11_SameInts_j1 = some r) ?_ (fun _ u hm => ?_)
 ·
  refine c_block ?_
  replace hm := bnd hm
  obtain ⟨out2, hl2, hr2⟩ := hm
  obtain ⟨n113', hl2⟩ := loop_lp hl2
  refine c_loopU (ι := Nat × Int) [0, 1, 5] (fun ⟨n113, i85⟩ => [(5, .int .i64 i85)]) (fun ⟨n113, i85⟩ => ⟨w0, M, H, R, φ⟩) (fun ⟨n113, i85⟩ => Lp (fun s => m_ref11_SameInts_s2 p0 p1 s) n113 i85 out2) (fun ⟨n113, i85⟩ => n113) (n113', 0) hl2 ⟨rfl, rfl, rfl, trivial⟩ (fun W h => h.phi (fun W hφ => hφ)) (fun ⟨n113, i85⟩ u hlp => ?_)
  obtain ⟨o2, hm, hnx2⟩ := lp_step hlp
  clear hlp
  replace hm : m_ref11_SameInts_s2 p0 p1 i85 = some o2 := hm
  unfold m_ref11_SameInts_s2 at hm
  refine c_flat [(0, .slice Ap0_0 p0.length cp0_0), (1, .slice Ap1_0 p1.length cp1_0), (5, .int .i64 i85)] ⟨rfl, rfl, rfl, trivial⟩ (fun u => ?_)
  refine c_sta ⟨w0, M, H, R, φ⟩ (fun _ h => h) <| c_seq <| c_seq <| c_region <| g_v rfl r_move <| g_v rfl r_move <| g_v rfl (r_lenL Try.underlying23 rfl) <| g_v rfl (r_lss rfl rfl) <| g_nil <| d_then ?_
  refine c_cond rfl (fun h114 => ?_) (fun h114 => ?_)
  ·
   replace hm := ite_t hm (of_decide_eq_true h114)
   refine c_skip <| d_then <| c_seq <| c_block <| c_seq <| ga_start (n := 9) ⟨w0, M, H, R, φ⟩ [] #[false, false, false, false, false, false, false, false, false] (fun W h => h.phi (fun W hφ => hφ)) mixed rfl rfl <| ga_v (i := 0) (bz 9 1) rfl (by kernel_rfl) (fun _ _ _ _ h => h) rfl (r_move) <| ga_v (i := 1) (bz 9 3) rfl (by kernel_rfl) (fun _ _ _ _ h => h) rfl (r_move) ?_
   replace hm := bnd hm
   obtain ⟨x131, hx131, hm⟩ := hm
   refine ga_know _ (fun W hS => cl_at (p := (Sta.mk w0 M H R φ).ok) (sz := 1) (fun _ => rfl) (by decide) (ok_pre (H1 := []) (R1 := []) hS (fun W h => h)) fp0_0 hx131) ?_
   rintro ⟨ad132, hA134, f133⟩
   refine ga_v (i := 2) (bz 9 7) rfl (by kernel_rfl) (fun _ _ _ _ h => h) rfl (r_ix Try.underlying23 Try.sizeOf3 rfl hA134 rfl hx131) <| ga_v (i := 3) (bz 9 15) rfl (by kernel_rfl) (fun _ _ _ _ h => h) rfl (r_ld rfl Try.isAgg3 (fun W hS => Cl.head (f133 W (ok_pre (H1 := []) (R1 := []) hS (fun W h => h))))) <| ga_v (i := 4) (bz 9 31) rfl (by kernel_rfl) (fun _ _ _ _ h => h) rfl (r_move) <| ga_r (i := 5) (bz 9 63) rfl (by kernel_rfl) (by decide) rfl (r_move) ?_
   replace hm := bnd hm
   obtain ⟨x135, hx135, hm⟩ := hm
   refine ga_know _ (fun W hS => cl_at (p := (Sta.mk w0 M H R φ).ok) (sz := 1) (fun _ => rfl) (by decide) (ok_pre (H1 := []) (R1 := []) hS (fun W h => h)) fp1_0 hx135) ?_
   rintro ⟨ad136, hA138, f137⟩
   refine ga_r (i := 6) (bz 9 127) rfl (by kernel_rfl) (by decide) rfl (r_ix Try.underlying23 Try.sizeOf3 rfl hA138 rfl hx135) <| ga_r (i := 7) (bz 9 255) rfl (by kernel_rfl) (by decide) rfl (r_ld rfl Try.isAgg3 (fun W hS => Cl.head (f137 W (ok_pre (H1 := []) (R1 := []) hS (fun W h => h))))) <| ga_r (i := 8) (bz 9 511) rfl (by kernel_rfl) (by decide) rfl (r_neq rfl rfl) <| ga_done (by kernel_rfl) <| d_then ?_
   refine c_flat [(0, .slice Ap0_0 p0.length cp0_0), (1, .slice Ap1_0 p1.length cp1_0), (5, .int .i64 i85), (25, .bool (decide (x131 ≠ x135)))] ⟨rfl, rfl, rfl, rfl, trivial⟩ (fun u => ?_)
   refine c_cond rfl (fun h139 => ?_) (fun h139 => ?_)
   ·
    replace hm := ite_t hm (of_decide_eq_true h139)
    refine c_seq <| c_region <| g_v rfl r_assign <| g_nil <| d_then <| c_ret <| d_ret_block <| d_ret_then <| d_ret_then <| d_ret_block ?_
    refine d_ret_then <| d_ret_then ?_
    replace hm := nx_out (C := (fun e : Unit ⊕ Bool => Sum.elim (fun e => m_ref11_SameInts_j1) (fun x => some x) e = some r)) hm hnx2 hr2
    replace hm : some false = some r := hm
    cases hm
    exact d_retC () Try.results30 (res_tmp (res_nil rfl)) trivial (fun W h => ok_pre (H1 := []) (R1 := []) h (fun W hφ => hφ)) (.inr rfl)
   replace hm := ite_f hm (of_decide_eq_false h139)
   refine c_skip <| d_normal_block <| d_then <| c_region <| g_v rfl r_move <| g_v rfl (r_add rfl rfl rfl) <| g_v rfl r_assign <| g_nil ?_
   obtain ⟨n140, hn140, hlp⟩ := nx_inl hm hnx2
   exact d_round (n140, w64 (i85 + 1)) hlp hn140 ⟨rfl, rfl, rfl, trivial⟩ (fun W h => h.phi (fun W hφ => hφ))
  replace hm := ite_f hm (of_decide_eq_false h114)
  refine c_exit <| d_exit_then <| d_exit_then <| d_exit_block ?_
  replace hm := nx_out (C := (fun e : Unit ⊕ Bool => Sum.elim (fun e => m_ref11_SameInts_j1) (fun x => some x) e = some r)) hm hnx2 hr2
  exact d_round () hm Nat.zero_lt_one trivial (fun W h => h.phi (fun W hφ => hφ))
 unfold m_ref11_SameInts_j1 at hm
 refine d_flat [] trivial (fun u => ?_)
 refine d_sta ⟨w0, M, H, R, φ⟩ (fun _ h => h) <| d_then <| c_seq <| c_region <| g_v rfl r_assign <| g_nil <| d_then <| c_ret ?_
 cases hm
 exact d_retC () Try.results30 (res_tmp (res_nil rfl)) trivial (fun W h => ok_pre (H1 := []) (R1 := []) h (fun W hφ => hφ)) (.inr rfl)
noncomputable def m_ref11_Same (p0 : GHard) (p1 : GHard) : Option Bool :=
  (m_ref11_SameLog p0.fLog p1.fLog).bind fun x3 =>
  (m_ref11_SameInts p0.fVoters p1.fVoters).bind fun x5 =>
  if x3 = true then
    if x5 = true then
      if p0.fTerm = p1.fTerm then
        if p0.fVote = p1.fVote then
          some (decide (p0.fSnap = p1.fSnap))
        else
          some false
      else
        some false
    else
      some false
  else
    some false
theorem c_ref11_Same {w0 : World} {M : Nat → Prop} {H : List (Nat × Nat × Obj)} {R : List (Nat × Row)} {φ : World → Prop} (p0 : GHard) (Ap0_0 : Option Addr) (cp0_0 : Nat) (hcp0_0 : p0.fVoters.length ≤ cp0_0) (fp0_0 : ∀ W, (Sta.mk w0 M H R φ).ok W → Cl W Ap0_0 (p0.fVoters.flatMap (fun x : Int => [Value.int .i64 x]))) (Ap0_1 : Option Addr) (cp0_1 : Nat) (hcp0_1 : p0.fLog.fEntries.length ≤ cp0_1) (fp0_1 : ∀ W, (Sta.mk w0 M H R φ).ok W → Cl W Ap0_1 (p0.fLog.fEntries.flatMap GEntry.enc)) (p1 : GHard) (Ap1_0 : Option Addr) (cp1_0 : Nat) (hcp1_0 : p1.fVoters.length ≤ cp1_0) (fp1_0 : ∀ W, (Sta.mk w0 M H R φ).ok W → Cl W Ap1_0 (p1.fVoters.flatMap (fun x : Int => [Value.int .i64 x]))) (Ap1_1 : Option Addr) (cp1_1 : Nat) (hcp1_1 : p1.fLog.fEntries.length ≤ cp1_1) (fp1_1 : ∀ W, (Sta.mk w0 M H R φ).ok W → Cl W Ap1_1 (p1.fLog.fEntries.flatMap GEntry.enc)) (r : Bool) (hm : m_ref11_Same p0 p1 = some r) :
    Cn Try.prog 52 #[.agg #[.int .i64 p0.fTerm, .int .i64 p0.fVote, .slice Ap0_0 p0.fVoters.length cp0_0, .string p0.fSnap, .int .i64 p0.fLog.fBase, .int .i64 p0.fLog.fBaseTerm, .slice Ap0_1 p0.fLog.fEntries.length cp0_1], .agg #[.int .i64 p1.fTerm, .int .i64 p1.fVote, .slice Ap1_0 p1.fVoters.length cp1_0, .string p1.fSnap, .int .i64 p1.fLog.fBase, .int .i64 p1.fLog.fBaseTerm, .slice Ap1_1 p1.fLog.fEntries.length cp1_1]] ⟨w0, M, H, R, φ⟩ (fun x : Unit => .bool r) (fun x => True) (fun x => ⟨w0, M, H, R, φ⟩) := by
 unfold m_ref11_Same at hm
 refine cn_intro (fn := Try.f52) (N := 42) Try.func52 rfl Try.ntmps52 rfl <| c_seq <| c_region ?_
 refine g_e rfl (e_box 100020 rfl) (fun g1 _ => ?_)
 refine g_e rfl (e_box 100030 rfl) (fun g2 _ => ?_)
 refine g_v rfl r_assign <| g_nil <| d_then <| c_seq <| c_region <| g_v rfl (r_field (n := 4) Try.underlying40 rfl Try.sizeOf38 rfl rfl) <| g_v rfl (r_loadA (tag := 100020) rfl rfl Try.isAgg38 Try.sizeOf38 rfl rfl) <| g_v rfl (r_field (n := 4) Try.underlying40 rfl Try.sizeOf38 rfl rfl) <| g_v rfl (r_loadA (tag := 100030) rfl rfl Try.isAgg38 Try.sizeOf38 rfl rfl) ?_
 replace hm := bnd hm
 obtain ⟨x3, hx4, hm⟩ := hm
 refine g_cn ⟨w0, M, _, _, φ⟩ (fun _ h => h) Try.call76 rfl rfl (c_ref11_SameLog p0.fLog Ap0_1 cp0_1 hcp0_1 (fun W hS => fp0_1 W (ok_pre (H1 := [_, _]) (R1 := []) hS (fun W h => h))) p1.fLog Ap1_1 cp1_1 hcp1_1 (fun W hS => fp1_1 W (ok_pre (H1 := [_, _]) (R1 := []) hS (fun W h => h))) _ hx4) (fun _ _ => ?_)
 refine g_v rfl r_assign <| g_nil <| d_then ?_
 refine c_flat [(2, .pointer (some ⟨g1, 0, none⟩)), (3, .pointer (some ⟨g2, 0, none⟩)), (5, .bool x3)] ⟨rfl, rfl, rfl, trivial⟩ (fun u => ?_)
 refine c_sta ⟨w0, M, (100030, g2, .cells #[.int .i64 p1.fTerm, .int .i64 p1.fVote, .slice Ap1_0 p1.fVoters.length cp1_0, .string p1.fSnap, .int .i64 p1.fLog.fBase, .int .i64 p1.fLog.fBaseTerm, .slice Ap1_1 p1.fLog.fEntries.length cp1_1] 40 (0, 0)) :: (100020, g1, .cells #[.int .i64 p0.fTerm, .int .i64 p0.fVote, .slice Ap0_0 p0.fVoters.length cp0_0, .string p0.fSnap, .int .i64 p0.fLog.fBase, .int .i64 p0.fLog.fBaseTerm, .slice Ap0_1 p0.fLog.fEntries.length cp0_1] 40 (0, 0)) :: H, R, φ⟩ (fun _ h => h) <| c_seq <| c_region <| g_v rfl (r_field (n := 2) Try.underlying40 rfl Try.sizeOf23 rfl rfl) <| g_v rfl (r_load (tag := 100020) rfl rfl rfl Try.isAgg23) <| g_v rfl (r_field (n := 2) Try.underlying40 rfl Try.sizeOf23 rfl rfl) <| g_v rfl (r_load (tag := 100030) rfl rfl rfl Try.isAgg23) ?_
 replace hm := bnd hm
 obtain ⟨x5, hx6, hm⟩ := hm
 refine g_cn ⟨w0, M, _, _, φ⟩ (fun _ h => h) Try.call30 rfl rfl (c_ref11_SameInts p0.fVoters Ap0_0 cp0_0 hcp0_0 (fun W hS => fp0_0 W (ok_pre (H1 := [_, _]) (R1 := []) hS (fun W h => h))) p1.fVoters Ap1_0 cp1_0 hcp1_0 (fun W hS => fp1_0 W (ok_pre (H1 := [_, _]) (R1 := []) hS (fun W h => h))) _ hx6) (fun _ _ => ?_)
 refine g_v rfl r_assign <| g_nil <| d_then <| c_seq <| c_region <| g_v rfl r_move <| g_v rfl r_move ?_
 refine g_if rfl rfl rfl rfl rfl (fun h7 => ?_) (fun h7 => ?_)
 ·
  replace hm := ite_t hm h7
  refine g_v rfl r_move <| g_v rfl (r_pick1 rfl h7) <| g_v rfl r_move ?_
  refine g_if rfl rfl rfl rfl rfl (fun h8 => ?_) (fun h8 => ?_)
  ·
   replace hm := ite_t hm h8
   refine g_v rfl (r_field (n := 0) Try.underlying40 rfl Try.sizeOf3 rfl rfl) <| g_do rfl rfl rfl rfl rfl h8 <| g_v rfl (r_load (tag := 100020) rfl rfl rfl Try.isAgg3) <| g_do rfl rfl rfl rfl rfl h8 <| g_v rfl (r_field (n := 0) Try.underlying40 rfl Try.sizeOf3 rfl rfl) <| g_do rfl rfl rfl rfl rfl h8 <| g_v rfl (r_load (tag := 100030) rfl rfl rfl Try.isAgg3) <| g_do rfl rfl rfl rfl rfl h8 <| g_v rfl (r_eql rfl rfl) <| g_v rfl (r_pick1 rfl h8) ?_
   refine g_v rfl r_move ?_
   refine g_if rfl rfl rfl rfl rfl (fun h9 => ?_) (fun h9 => ?_)
   ·
    replace hm := ite_t hm (of_decide_eq_true h9)
    refine g_v rfl (r_field (n := 1) Try.underlying40 rfl Try.sizeOf3 rfl rfl) <| g_do rfl rfl rfl rfl rfl h9 <| g_v rfl (r_load (tag := 100020) rfl rfl rfl Try.isAgg3) <| g_do rfl rfl rfl rfl rfl h9 <| g_v rfl (r_field (n := 1) Try.underlying40 rfl Try.sizeOf3 rfl rfl) <| g_do rfl rfl rfl rfl rfl h9 <| g_v rfl (r_load (tag := 100030) rfl rfl rfl Try.isAgg3) <| g_do rfl rfl rfl rfl rfl h9 <| g_v rfl (r_eql rfl rfl) <| g_v rfl (r_pick1 rfl h9) ?_
    refine g_v rfl r_move ?_
    refine g_if rfl rfl rfl rfl rfl (fun h10 => ?_) (fun h10 => ?_)
    ·
     replace hm := ite_t hm (of_decide_eq_true h10)
     refine g_v rfl (r_field (n := 3) Try.underlying40 rfl Try.sizeOf9 rfl rfl) <| g_do rfl rfl rfl rfl rfl h10 <| g_v rfl (r_load (tag := 100020) rfl rfl rfl Try.isAgg9) <| g_do rfl rfl rfl rfl rfl h10 <| g_v rfl (r_field (n := 3) Try.underlying40 rfl Try.sizeOf9 rfl rfl) <| g_do rfl rfl rfl rfl rfl h10 <| g_v rfl (r_load (tag := 100030) rfl rfl rfl Try.isAgg9) <| g_do rfl rfl rfl rfl rfl h10 <| g_v rfl (r_eqlT rfl rfl) <| g_v rfl (r_pick1 rfl h10) ?_
     refine g_v rfl r_assign <| g_nil <| d_then ?_
     refine c_flat [(4, .bool (decide (p0.fSnap = p1.fSnap)))] ⟨rfl, trivial⟩ (fun u => ?_)
     refine c_ret ?_
     cases hm
     exact d_retC () Try.results52 (res_tmp (res_nil rfl)) trivial (fun W h => ok_pre (H1 := [_, _]) (R1 := []) h (fun W hφ => hφ)) (.inr rfl)
    replace hm := ite_f hm (of_decide_eq_false h10)
    iterate 4 refine g_no rfl rfl rfl rfl rfl h10 ?_
    refine g_v rfl (r_pick0 rfl h10) <| g_v rfl r_assign <| g_nil <| d_then ?_
    refine c_flat [(4, .bool false)] ⟨rfl, trivial⟩ (fun u => ?_)
    refine c_ret ?_
    cases hm
    exact d_retC () Try.results52 (res_tmp (res_nil rfl)) trivial (fun W h => ok_pre (H1 := [_, _]) (R1 := []) h (fun W hφ => hφ)) (.inr rfl)
   replace hm := ite_f hm (of_decide_eq_false h9)
   iterate 4 refine g_no rfl rfl rfl rfl rfl h9 ?_
   refine g_v rfl (r_pick0 rfl h9) <| g_v rfl r_move ?_
   iterate 5 refine g_no rfl rfl rfl rfl rfl rfl ?_
   refine g_v rfl (r_pick0 rfl rfl) <| g_v rfl r_assign <| g_nil <| d_then ?_
   refine c_flat [(4, .bool false)] ⟨rfl, trivial⟩ (fun u => ?_)
   refine c_ret ?_
   cases hm
   exact d_retC () Try.results52 (res_tmp (res_nil rfl)) trivial (fun W h => ok_pre (H1 := [_, _]) (R1 := []) h (fun W hφ => hφ)) (.inr rfl)
  replace hm := ite_f hm (bool_nt h8)
  iterate 4 refine g_no rfl rfl rfl rfl rfl h8 ?_
  refine g_v rfl (r_pick0 rfl h8) <| g_v rfl r_move ?_
  iterate 5 refine g_no rfl rfl rfl rfl rfl rfl ?_
  refine g_v rfl (r_pick0 rfl rfl) <| g_v rfl r_move ?_
  iterate 5 refine g_no rfl rfl rfl rfl rfl rfl ?_
  refine g_v rfl (r_pick0 rfl rfl) <| g_v rfl r_assign <| g_nil <| d_then ?_
  refine c_flat [(4, .bool false)] ⟨rfl, trivial⟩ (fun u => ?_)
  refine c_ret ?_
  cases hm
  exact d_retC () Try.results52 (res_tmp (res_nil rfl)) trivial (fun W h => ok_pre (H1 := [_, _]) (R1 := []) h (fun W hφ => hφ)) (.inr rfl)
 replace hm := ite_f hm (bool_nt h7)
 refine g_v rfl (r_pick0 rfl h7) <| g_v rfl r_move ?_
 iterate 5 refine g_no rfl rfl rfl rfl rfl rfl ?_
 refine g_v rfl (r_pick0 rfl rfl) <| g_v rfl r_move ?_
 iterate 5 refine g_no rfl rfl rfl rfl rfl rfl ?_
 refine g_v rfl (r_pick0 rfl rfl) <| g_v rfl r_move ?_
 iterate 5 refine g_no rfl rfl rfl rfl rfl rfl ?_
 refine g_v rfl (r_pick0 rfl rfl) <| g_v rfl r_assign <| g_nil <| d_then ?_
 refine c_flat [(4, .bool false)] ⟨rfl, trivial⟩ (fun u => ?_)
 refine c_ret ?_
 cases hm
 exact d_retC () Try.results52 (res_tmp (res_nil rfl)) trivial (fun W h => ok_pre (H1 := [_, _]) (R1 := []) h (fun W hφ => hφ)) (.inr rfl)
theorem eqq105 (a b : GMark) : ∀ d W, (Op.equalIn (d + 5) 105 (.agg #[.int .i64 a.fNode, .int .i64 a.fNext, .int .i64 a.fMatch]) (.agg #[.int .i64 b.fNode, .int .i64 b.fNext, .int .i64 b.fMatch])).run Try.prog W = .ok (decide (a = b)) W := by
  intro d W
  have h := eqs_of (d := d + 4) (xs := #[.int .i64 a.fNode, .int .i64 a.fNext, .int .i64 a.fMatch]) (ys := #[.int .i64 b.fNode, .int .i64 b.fNext, .int .i64 b.fMatch]) (w := W) Try.underlying105 (by kernel_rfl) (eqs_cons (a := .int .i64 a.fNode) (b := .int .i64 b.fNode) rfl (by kernel_rfl) (by kernel_rfl) (eqs_int Try.underlying3) (eqs_cons (a := .int .i64 a.fNext) (b := .int .i64 b.fNext) rfl (by kernel_rfl) (by kernel_rfl) (eqs_int Try.underlying3) (eqs_cons (a := .int .i64 a.fMatch) (b := .int .i64 b.fMatch) rfl (by kernel_rfl) (by kernel_rfl) (eqs_int Try.underlying3) eqs_nil)))
  refine h.trans ?_
  congr 1
  cases a; cases b
  simp only [GMark.mk.injEq, Bool.and_true]
  simp only [Bool.decide_and]
theorem eqg105 : Try.prog.eqGuardType Try.prog.depth 105 = false := by kernel_rfl
noncomputable def m_ref12_Same_j1 (x3 : Bool) (x5 : Bool) (p0 : GRaft) (p1 : GRaft) : Option Bool :=
  if x3 = true then
    if x5 = true then
      if p0.fMe = p1.fMe then
        if p0.fRole = p1.fRole then
          if p0.fLeader = p1.fLeader then
            if p0.fCommit = p1.fCommit then
              some (decide (p0.fLeft = p1.fLeft))
            else
              some false
          else
            some false
        else
          some false
      else
        some false
    else
      some false
  else
    some false
noncomputable def m_ref12_Same_s2 (p0 : GRaft) (p1 : GRaft) (i97 : Int) : Option (Int ⊕ (Unit ⊕ Bool)) :=
  if i97 < (p0.fMarks.length : Int) then
    (at_ p0.fMarks i97).bind fun x143 =>
    (at_ p1.fMarks i97).bind fun x147 =>
    if x143 = x147 then
      some (.inl (w64 (i97 + 1)))
    else
      some (.inr (.inr false))
  else
    some (.inr (.inl ()))
noncomputable def m_ref12_Same (p0 : GRaft) (p1 : GRaft) : Option Bool :=
  (m_ref11_Same p0.fHard p1.fHard).bind fun x3 =>
  (m_ref11_SameInts p0.fVotes p1.fVotes).bind fun x5 =>
  if (p0.fMarks.length : Int) ≠ (p1.fMarks.length : Int) then
    some false
  else
    (loop (fun s => m_ref12_Same_s2 p0 p1 s) 0).bind fun e => Sum.elim (fun e => m_ref12_Same_j1 x3 x5 p0 p1) (fun x => some x) e
theorem c_ref12_Same {w0 : World} {M : Nat → Prop} {H : List (Nat × Nat × Obj)} {R : List (Nat × Row)} {φ : World → Prop} (p0 : GRaft) (Ap0_0 : Option Addr) (cp0_0 : Nat) (hcp0_0 : p0.fHard.fVoters.length ≤ cp0_0) (fp0_0 : ∀ W, (Sta.mk w0 M H R φ).ok W → Cl W Ap0_0 (p0.fHard.fVoters.flatMap (fun x : Int => [Value.int .i64 x]))) (Ap0_1 : Option Addr) (cp0_1 : Nat) (hcp0_1 : p0.fHard.fLog.fEntries.length ≤ cp0_1) (fp0_1 : ∀ W, (Sta.mk w0 M H R φ).ok W → Cl W Ap0_1 (p0.fHard.fLog.fEntries.flatMap GEntry.enc)) (Ap0_2 : Option Addr) (cp0_2 : Nat) (hcp0_2 : p0.fVotes.length ≤ cp0_2) (fp0_2 : ∀ W, (Sta.mk w0 M H R φ).ok W → Cl W Ap0_2 (p0.fVotes.flatMap (fun x : Int => [Value.int .i64 x]))) (Ap0_3 : Option Addr) (cp0_3 : Nat) (hcp0_3 : p0.fMarks.length ≤ cp0_3) (fp0_3 : ∀ W, (Sta.mk w0 M H R φ).ok W → Cl W Ap0_3 (p0.fMarks.flatMap GMark.enc)) (p1 : GRaft) (Ap1_0 : Option Addr) (cp1_0 : Nat) (hcp1_0 : p1.fHard.fVoters.length ≤ cp1_0) (fp1_0 : ∀ W, (Sta.mk w0 M H R φ).ok W → Cl W Ap1_0 (p1.fHard.fVoters.flatMap (fun x : Int => [Value.int .i64 x]))) (Ap1_1 : Option Addr) (cp1_1 : Nat) (hcp1_1 : p1.fHard.fLog.fEntries.length ≤ cp1_1) (fp1_1 : ∀ W, (Sta.mk w0 M H R φ).ok W → Cl W Ap1_1 (p1.fHard.fLog.fEntries.flatMap GEntry.enc)) (Ap1_2 : Option Addr) (cp1_2 : Nat) (hcp1_2 : p1.fVotes.length ≤ cp1_2) (fp1_2 : ∀ W, (Sta.mk w0 M H R φ).ok W → Cl W Ap1_2 (p1.fVotes.flatMap (fun x : Int => [Value.int .i64 x]))) (Ap1_3 : Option Addr) (cp1_3 : Nat) (hcp1_3 : p1.fMarks.length ≤ cp1_3) (fp1_3 : ∀ W, (Sta.mk w0 M H R φ).ok W → Cl W Ap1_3 (p1.fMarks.flatMap GMark.enc)) (r : Bool) (hm : m_ref12_Same p0 p1 = some r) :
    Cn Try.prog 29 #[.agg #[.int .i64 p0.fMe, .int .i64 p0.fRole, .int .i64 p0.fLeader, .int .i64 p0.fCommit, .int .i64 p0.fLeft, .int .i64 p0.fHard.fTerm, .int .i64 p0.fHard.fVote, .slice Ap0_0 p0.fHard.fVoters.length cp0_0, .string p0.fHard.fSnap, .int .i64 p0.fHard.fLog.fBase, .int .i64 p0.fHard.fLog.fBaseTerm, .slice Ap0_1 p0.fHard.fLog.fEntries.length cp0_1, .slice Ap0_2 p0.fVotes.length cp0_2, .slice Ap0_3 p0.fMarks.length cp0_3], .agg #[.int .i64 p1.fMe, .int .i64 p1.fRole, .int .i64 p1.fLeader, .int .i64 p1.fCommit, .int .i64 p1.fLeft, .int .i64 p1.fHard.fTerm, .int .i64 p1.fHard.fVote, .slice Ap1_0 p1.fHard.fVoters.length cp1_0, .string p1.fHard.fSnap, .int .i64 p1.fHard.fLog.fBase, .int .i64 p1.fHard.fLog.fBaseTerm, .slice Ap1_1 p1.fHard.fLog.fEntries.length cp1_1, .slice Ap1_2 p1.fVotes.length cp1_2, .slice Ap1_3 p1.fMarks.length cp1_3]] ⟨w0, M, H, R, φ⟩ (fun x : Unit => .bool r) (fun x => True) (fun x => ⟨w0, M, H, R, φ⟩) := by
 unfold m_ref12_Same at hm
 refine cn_intro (fn := Try.f29) (N := 82) Try.func29 rfl Try.ntmps29 rfl <| c_seq <| c_region ?_
 refine g_e rfl (e_box 100020 rfl) (fun g1 _ => ?_)
 refine g_e rfl (e_box 100030 rfl) (fun g2 _ => ?_)
 refine g_v rfl r_assign <| g_nil <| d_then <| c_seq <| c_region <| g_v rfl (r_field (n := 5) Try.underlying43 rfl Try.sizeOf40 rfl rfl) <| g_v rfl (r_loadA (tag := 100020) rfl rfl Try.isAgg40 Try.sizeOf40 rfl rfl) <| g_v rfl (r_field (n := 5) Try.underlying43 rfl Try.sizeOf40 rfl rfl) <| g_v rfl (r_loadA (tag := 100030) rfl rfl Try.isAgg40 Try.sizeOf40 rfl rfl) ?_
 replace hm := bnd hm
 obtain ⟨x3, hx4, hm⟩ := hm
 refine g_cn ⟨w0, M, _, _, φ⟩ (fun _ h => h) Try.call52 rfl rfl (c_ref11_Same p0.fHard Ap0_0 cp0_0 hcp0_0 (fun W hS => fp0_0 W (ok_pre (H1 := [_, _]) (R1 := []) hS (fun W h => h))) Ap0_1 cp0_1 hcp0_1 (fun W hS => fp0_1 W (ok_pre (H1 := [_, _]) (R1 := []) hS (fun W h => h))) p1.fHard Ap1_0 cp1_0 hcp1_0 (fun W hS => fp1_0 W (ok_pre (H1 := [_, _]) (R1 := []) hS (fun W h => h))) Ap1_1 cp1_1 hcp1_1 (fun W hS => fp1_1 W (ok_pre (H1 := [_, _]) (R1 := []) hS (fun W h => h))) _ hx4) (fun _ _ => ?_)
 refine g_v rfl r_assign <| g_nil <| d_then ?_
 refine c_flat [(2, .pointer (some ⟨g1, 0, none⟩)), (3, .pointer (some ⟨g2, 0, none⟩)), (5, .bool x3)] ⟨rfl, rfl, rfl, trivial⟩ (fun u => ?_)
 refine c_sta ⟨w0, M, (100030, g2, .cells #[.int .i64 p1.fMe, .int .i64 p1.fRole, .int .i64 p1.fLeader, .int .i64 p1.fCommit, .int .i64 p1.fLeft, .int .i64 p1.fHard.fTerm, .int .i64 p1.fHard.fVote, .slice Ap1_0 p1.fHard.fVoters.length cp1_0, .string p1.fHard.fSnap, .int .i64 p1.fHard.fLog.fBase, .int .i64 p1.fHard.fLog.fBaseTerm, .slice Ap1_1 p1.fHard.fLog.fEntries.length cp1_1, .slice Ap1_2 p1.fVotes.length cp1_2, .slice Ap1_3 p1.fMarks.length cp1_3] 43 (0, 0)) :: (100020, g1, .cells #[.int .i64 p0.fMe, .int .i64 p0.fRole, .int .i64 p0.fLeader, .int .i64 p0.fCommit, .int .i64 p0.fLeft, .int .i64 p0.fHard.fTerm, .int .i64 p0.fHard.fVote, .slice Ap0_0 p0.fHard.fVoters.length cp0_0, .string p0.fHard.fSnap, .int .i64 p0.fHard.fLog.fBase, .int .i64 p0.fHard.fLog.fBaseTerm, .slice Ap0_1 p0.fHard.fLog.fEntries.length cp0_1, .slice Ap0_2 p0.fVotes.length cp0_2, .slice Ap0_3 p0.fMarks.length cp0_3] 43 (0, 0)) :: H, R, φ⟩ (fun _ h => h) <| c_seq <| c_region <| g_v rfl (r_field (n := 12) Try.underlying43 rfl Try.sizeOf23 rfl rfl) <| g_v rfl (r_load (tag := 100020) rfl rfl rfl Try.isAgg23) <| g_v rfl (r_field (n := 12) Try.underlying43 rfl Try.sizeOf23 rfl rfl) <| g_v rfl (r_load (tag := 100030) rfl rfl rfl Try.isAgg23) ?_
 replace hm := bnd hm
 obtain ⟨x5, hx6, hm⟩ := hm
 refine g_cn ⟨w0, M, _, _, φ⟩ (fun _ h => h) Try.call30 rfl rfl (c_ref11_SameInts p0.fVotes Ap0_2 cp0_2 hcp0_2 (fun W hS => fp0_2 W (ok_pre (H1 := [_, _]) (R1 := []) hS (fun W h => h))) p1.fVotes Ap1_2 cp1_2 hcp1_2 (fun W hS => fp1_2 W (ok_pre (H1 := [_, _]) (R1 := []) hS (fun W h => h))) _ hx6) (fun _ _ => ?_)
 refine g_v rfl r_assign <| g_nil <| d_then <| c_seq <| c_seq <| c_region <| g_v rfl (r_field (n := 13) Try.underlying43 rfl Try.sizeOf41 rfl rfl) <| g_v rfl (r_load (tag := 100020) rfl rfl rfl Try.isAgg41) <| g_v rfl (r_lenL Try.underlying41 rfl) <| g_v rfl (r_field (n := 13) Try.underlying43 rfl Try.sizeOf41 rfl rfl) ?_
 refine g_v rfl (r_load (tag := 100030) rfl rfl rfl Try.isAgg41) <| g_v rfl (r_lenL Try.underlying41 rfl) <| g_v rfl (r_neq rfl rfl) <| g_nil <| d_then ?_
 refine c_flat [(2, .pointer (some ⟨g1, 0, none⟩)), (3, .pointer (some ⟨g2, 0, none⟩)), (5, .bool x3), (6, .bool x5), (24, .bool (decide ((p0.fMarks.length : Int) ≠ (p1.fMarks.length : Int))))] ⟨rfl, rfl, rfl, rfl, rfl, trivial⟩ (fun u => ?_)
 refine c_cond rfl (fun h7 => ?_) (fun h7 => ?_)
 ·
  replace hm := ite_t hm (of_decide_eq_true h7)
  refine c_seq <| c_region <| g_v rfl r_assign <| g_nil <| d_then <| c_ret <| d_ret_then ?_
  cases hm
  exact d_retC () Try.results29 (res_tmp (res_nil rfl)) trivial (fun W h => ok_pre (H1 := [_, _]) (R1 := []) h (fun W hφ => hφ)) (.inr rfl)
 replace hm := ite_f hm (of_decide_eq_false h7)
 refine c_skip <| d_then <| c_seq <| c_seq <| c_region <| g_v rfl r_assign <| g_nil <| d_then ?_
 refine c_cut (ι := Unit) [2, 3, 5, 6] (fun _ => []) (fun _ => ⟨w0, M, (100030, g2, .cells #[.int .i64 p1.fMe, .int .i64 p1.fRole, .int .i64 p1.fLeader, .int .i64 p1.fCommit, .int .i64 p1.fLeft, .int .i64 p1.fHard.fTerm, .int .i64 p1.fHard.fVote, .slice Ap1_0 p1.fHard.fVoters.length cp1_0, .string p1.fHard.fSnap, .int .i64 p1.fHard.fLog.fBase, .int .i64 p1.fHard.fLog.fBaseTerm, .slice Ap1_1 p1.fHard.fLog.fEntries.length cp1_1, .slice Ap1_2 p1.fVotes.length cp1_2, .slice Ap1_3 p1.fMarks.length cp1_3] 43 (0, 0)) :: (100020, g1, .cells #[.int .i64 p0.fMe, .int .i64 p0.fRole, .int .i64 p0.fLeader, .int .i64 p0.fCommit, .int .i64 p0.fLeft, .int .i64 p0.fHard.fTerm, .int .i64 p0.fHard.fVote, .slice Ap0_0 p0.fHard.fVoters.length cp0_0, .string p0.fHard.fSnap, .int .i64 p0.fHard.fLog.fBase, .int .i64 p0.fHard.fLog.fBaseTerm, .slice Ap0_1 p0.fHard.fLog.fEntries.length cp0_1, .slice Ap0_2 p0.fVotes.length cp0_2, .slice Ap0_3 p0.fMarks.length cp0_3] 43 (0, 0)) :: H, R, φ⟩) (fun _ => m_ref12_Same_j1 x3 x5 p0 p1 = some r) ?_ (fun _ u hm => ?_)
 ·
  refine c_block ?_
  replace hm := bnd hm
  obtain ⟨out2, hl2, hr2⟩ := hm
  obtain ⟨n125', hl2⟩ := loop_lp hl2
  refine c_loopU (ι := Nat × Int) [2, 3, 5, 6, 7] (fun ⟨n125, i97⟩ => [(7, .int .i64 i97)]) (fun ⟨n125, i97⟩ => ⟨w0, M, (100030, g2, .cells #[.int .i64 p1.fMe, .int .i64 p1.fRole, .int .i64 p1.fLeader, .int .i64 p1.fCommit, .int .i64 p1.fLeft, .int .i64 p1.fHard.fTerm, .int .i64 p1.fHard.fVote, .slice Ap1_0 p1.fHard.fVoters.length cp1_0, .string p1.fHard.fSnap, .int .i64 p1.fHard.fLog.fBase, .int .i64 p1.fHard.fLog.fBaseTerm, .slice Ap1_1 p1.fHard.fLog.fEntries.length cp1_1, .slice Ap1_2 p1.fVotes.length cp1_2, .slice Ap1_3 p1.fMarks.length cp1_3] 43 (0, 0)) :: (100020, g1, .cells #[.int .i64 p0.fMe, .int .i64 p0.fRole, .int .i64 p0.fLeader, .int .i64 p0.fCommit, .int .i64 p0.fLeft, .int .i64 p0.fHard.fTerm, .int .i64 p0.fHard.fVote, .slice Ap0_0 p0.fHard.fVoters.length cp0_0, .string p0.fHard.fSnap, .int .i64 p0.fHard.fLog.fBase, .int .i64 p0.fHard.fLog.fBaseTerm, .slice Ap0_1 p0.fHard.fLog.fEntries.length cp0_1, .slice Ap0_2 p0.fVotes.length cp0_2, .slice Ap0_3 p0.fMarks.length cp0_3] 43 (0, 0)) :: H, R, φ⟩) (fun ⟨n125, i97⟩ => Lp (fun s => m_ref12_Same_s2 p0 p1 s) n125 i97 out2) (fun ⟨n125, i97⟩ => n125) (n125', 0) hl2 ⟨rfl, rfl, rfl, rfl, rfl, trivial⟩ (fun W h => h.phi (fun W hφ => hφ)) (fun ⟨n125, i97⟩ u hlp => ?_)
  obtain ⟨o2, hm, hnx2⟩ := lp_step hlp
  clear hlp
  replace hm : m_ref12_Same_s2 p0 p1 i97 = some o2 := hm
  unfold m_ref12_Same_s2 at hm
  refine c_flat [(2, .pointer (some ⟨g1, 0, none⟩)), (3, .pointer (some ⟨g2, 0, none⟩)), (5, .bool x3), (6, .bool x5), (7, .int .i64 i97)] ⟨rfl, rfl, rfl, rfl, rfl, trivial⟩ (fun u => ?_)
  refine c_seq <| c_seq <| c_region <| g_v rfl r_move <| g_v rfl (r_field (n := 13) Try.underlying43 rfl Try.sizeOf41 rfl rfl) <| g_v rfl (r_load (tag := 100020) rfl rfl rfl Try.isAgg41) <| g_v rfl (r_lenL Try.underlying41 rfl) <| g_v rfl (r_lss rfl rfl) <| g_nil <| d_then ?_
  refine c_cond rfl (fun h126 => ?_) (fun h126 => ?_)
  ·
   replace hm := ite_t hm (of_decide_eq_true h126)
   refine c_skip <| d_then <| c_seq <| c_block <| c_seq <| ga_start (n := 11) ⟨w0, M, (100030, g2, .cells #[.int .i64 p1.fMe, .int .i64 p1.fRole, .int .i64 p1.fLeader, .int .i64 p1.fCommit, .int .i64 p1.fLeft, .int .i64 p1.fHard.fTerm, .int .i64 p1.fHard.fVote, .slice Ap1_0 p1.fHard.fVoters.length cp1_0, .string p1.fHard.fSnap, .int .i64 p1.fHard.fLog.fBase, .int .i64 p1.fHard.fLog.fBaseTerm, .slice Ap1_1 p1.fHard.fLog.fEntries.length cp1_1, .slice Ap1_2 p1.fVotes.length cp1_2, .slice Ap1_3 p1.fMarks.length cp1_3] 43 (0, 0)) :: (100020, g1, .cells #[.int .i64 p0.fMe, .int .i64 p0.fRole, .int .i64 p0.fLeader, .int .i64 p0.fCommit, .int .i64 p0.fLeft, .int .i64 p0.fHard.fTerm, .int .i64 p0.fHard.fVote, .slice Ap0_0 p0.fHard.fVoters.length cp0_0, .string p0.fHard.fSnap, .int .i64 p0.fHard.fLog.fBase, .int .i64 p0.fHard.fLog.fBaseTerm, .slice Ap0_1 p0.fHard.fLog.fEntries.length cp0_1, .slice Ap0_2 p0.fVotes.length cp0_2, .slice Ap0_3 p0.fMarks.length cp0_3] 43 (0, 0)) :: H, R, φ⟩ [] #[false, false, false, false, false, false, false, false, false, false, false] (fun W h => h.phi (fun W hφ => hφ)) mixed rfl rfl <| ga_v (i := 0) (bz 11 1) rfl (by kernel_rfl) (fun _ _ _ _ h => h) rfl (r_field (n := 13) Try.underlying43 rfl Try.sizeOf41 rfl rfl) <| ga_v (i := 1) (bz 11 3) rfl (by kernel_rfl) (fun _ _ _ _ h => h) rfl (r_load (tag := 100020) rfl rfl rfl Try.isAgg41) <| ga_v (i := 2) (bz 11 7) rfl (by kernel_rfl) (fun _ _ _ _ h => h) rfl (r_move) ?_
   replace hm := bnd hm
   obtain ⟨x143, hx143, hm⟩ := hm
   refine ga_know _ (fun W hS => cl_at (p := (Sta.mk w0 M H R φ).ok) (sz := 3) (fun _ => rfl) (by decide) (ok_pre (H1 := [_, _]) (R1 := []) hS (fun W h => h)) fp0_3 hx143) ?_
   rintro ⟨ad144, hA146, f145⟩
   refine ga_v (i := 3) (bz 11 15) rfl (by kernel_rfl) (fun _ _ _ _ h => h) rfl (r_ix Try.underlying41 Try.sizeOf105 rfl hA146 rfl hx143) <| ga_v (i := 4) (bz 11 31) rfl (by kernel_rfl) (fun _ _ _ _ h => h) rfl (r_ldA rfl Try.isAgg105 Try.sizeOf105 (fun W hS => (f145 W (ok_pre (H1 := [_, _]) (R1 := []) hS (fun W h => h))).take 3) rfl) <| ga_v (i := 5) (bz 11 63) rfl (by kernel_rfl) (fun _ _ _ _ h => h) rfl (r_field (n := 13) Try.underlying43 rfl Try.sizeOf41 rfl rfl) <| ga_v (i := 6) (bz 11 127) rfl (by kernel_rfl) (fun _ _ _ _ h => h) rfl (r_load (tag := 100030) rfl rfl rfl Try.isAgg41) <| ga_r (i := 7) (bz 11 255) rfl (by kernel_rfl) (by decide) rfl (r_move) ?_
   replace hm := bnd hm
   obtain ⟨x147, hx147, hm⟩ := hm
   refine ga_know _ (fun W hS => cl_at (p := (Sta.mk w0 M H R φ).ok) (sz := 3) (fun _ => rfl) (by decide) (ok_pre (H1 := [_, _]) (R1 := []) hS (fun W h => h)) fp1_3 hx147) ?_
   rintro ⟨ad148, hA150, f149⟩
   refine ga_r (i := 8) (bz 11 511) rfl (by kernel_rfl) (by decide) rfl (r_ix Try.underlying41 Try.sizeOf105 rfl hA150 rfl hx147) <| ga_r (i := 9) (bz 11 1023) rfl (by kernel_rfl) (by decide) rfl (r_ldA rfl Try.isAgg105 Try.sizeOf105 (fun W hS => (f149 W (ok_pre (H1 := [_, _]) (R1 := []) hS (fun W h => h))).take 3) rfl) <| ga_r (i := 10) (bz 11 2047) rfl (by kernel_rfl) (by decide) rfl (r_neqA rfl rfl eqg105 (eqq105 x143 x147)) <| ga_done (by kernel_rfl) <| d_then ?_
   refine c_flat [(2, .pointer (some ⟨g1, 0, none⟩)), (3, .pointer (some ⟨g2, 0, none⟩)), (5, .bool x3), (6, .bool x5), (7, .int .i64 i97), (42, .bool (!(decide (x143 = x147))))] ⟨rfl, rfl, rfl, rfl, rfl, rfl, trivial⟩ (fun u => ?_)
   refine c_cond rfl (fun h151 => ?_) (fun h151 => ?_)
   ·
    have h151' : (decide (x143 = x147)) = false := by revert h151; cases (decide (x143 = x147)) <;> simp
    replace hm := ite_f hm (of_decide_eq_false h151')
    refine c_seq <| c_region <| g_v rfl r_assign <| g_nil <| d_then <| c_ret <| d_ret_block <| d_ret_then <| d_ret_then <| d_ret_block ?_
    refine d_ret_then <| d_ret_then ?_
    replace hm := nx_out (C := (fun e : Unit ⊕ Bool => Sum.elim (fun e => m_ref12_Same_j1 x3 x5 p0 p1) (fun x => some x) e = some r)) hm hnx2 hr2
    replace hm : some false = some r := hm
    cases hm
    exact d_retC () Try.results29 (res_tmp (res_nil rfl)) trivial (fun W h => ok_pre (H1 := [_, _]) (R1 := []) h (fun W hφ => hφ)) (.inr rfl)
   have h151' : (decide (x143 = x147)) = true := by revert h151; cases (decide (x143 = x147)) <;> simp
   replace hm := ite_t hm (of_decide_eq_true h151')
   refine c_skip <| d_normal_block <| d_then <| c_region <| g_v rfl r_move <| g_v rfl (r_add rfl rfl rfl) <| g_v rfl r_assign <| g_nil ?_
   obtain ⟨n152, hn152, hlp⟩ := nx_inl hm hnx2
   exact d_round (n152, w64 (i97 + 1)) hlp hn152 ⟨rfl, rfl, rfl, rfl, rfl, trivial⟩ (fun W h => h.phi (fun W hφ => hφ))
  replace hm := ite_f hm (of_decide_eq_false h126)
  refine c_exit <| d_exit_then <| d_exit_then <| d_exit_block ?_
  replace hm := nx_out (C := (fun e : Unit ⊕ Bool => Sum.elim (fun e => m_ref12_Same_j1 x3 x5 p0 p1) (fun x => some x) e = some r)) hm hnx2 hr2
  exact d_round () hm Nat.zero_lt_one ⟨rfl, rfl, rfl, rfl, trivial⟩ (fun W h => h.phi (fun W hφ => hφ))
 unfold m_ref12_Same_j1 at hm
 refine d_flat [(2, .pointer (some ⟨g1, 0, none⟩)), (3, .pointer (some ⟨g2, 0, none⟩)), (5, .bool x3), (6, .bool x5)] ⟨rfl, rfl, rfl, rfl, trivial⟩ (fun u => ?_)
 refine d_then <| c_seq <| c_region <| g_v rfl r_move <| g_v rfl r_move ?_
 refine g_if rfl rfl rfl rfl rfl (fun h64 => ?_) (fun h64 => ?_)
 ·
  replace hm := ite_t hm h64
  refine g_v rfl r_move <| g_v rfl (r_pick1 rfl h64) <| g_v rfl r_move ?_
  refine g_if rfl rfl rfl rfl rfl (fun h65 => ?_) (fun h65 => ?_)
  ·
   replace hm := ite_t hm h65
   refine g_v rfl (r_field (n := 0) Try.underlying43 rfl Try.sizeOf3 rfl rfl) <| g_do rfl rfl rfl rfl rfl h65 <| g_v rfl (r_load (tag := 100020) rfl rfl rfl Try.isAgg3) <| g_do rfl rfl rfl rfl rfl h65 <| g_v rfl (r_field (n := 0) Try.underlying43 rfl Try.sizeOf3 rfl rfl) <| g_do rfl rfl rfl rfl rfl h65 <| g_v rfl (r_load (tag := 100030) rfl rfl rfl Try.isAgg3) <| g_do rfl rfl rfl rfl rfl h65 <| g_v rfl (r_eql rfl rfl) <| g_v rfl (r_pick1 rfl h65) ?_
   refine g_v rfl r_move ?_
   refine g_if rfl rfl rfl rfl rfl (fun h66 => ?_) (fun h66 => ?_)
   ·
    replace hm := ite_t hm (of_decide_eq_true h66)
    refine g_v rfl (r_field (n := 1) Try.underlying43 rfl Try.sizeOf3 rfl rfl) <| g_do rfl rfl rfl rfl rfl h66 <| g_v rfl (r_load (tag := 100020) rfl rfl rfl Try.isAgg3) <| g_do rfl rfl rfl rfl rfl h66 <| g_v rfl (r_field (n := 1) Try.underlying43 rfl Try.sizeOf3 rfl rfl) <| g_do rfl rfl rfl rfl rfl h66 <| g_v rfl (r_load (tag := 100030) rfl rfl rfl Try.isAgg3) <| g_do rfl rfl rfl rfl rfl h66 <| g_v rfl (r_eql rfl rfl) <| g_v rfl (r_pick1 rfl h66) ?_
    refine g_v rfl r_move ?_
    refine g_if rfl rfl rfl rfl rfl (fun h67 => ?_) (fun h67 => ?_)
    ·
     replace hm := ite_t hm (of_decide_eq_true h67)
     refine g_v rfl (r_field (n := 2) Try.underlying43 rfl Try.sizeOf3 rfl rfl) <| g_do rfl rfl rfl rfl rfl h67 <| g_v rfl (r_load (tag := 100020) rfl rfl rfl Try.isAgg3) <| g_do rfl rfl rfl rfl rfl h67 <| g_v rfl (r_field (n := 2) Try.underlying43 rfl Try.sizeOf3 rfl rfl) <| g_do rfl rfl rfl rfl rfl h67 <| g_v rfl (r_load (tag := 100030) rfl rfl rfl Try.isAgg3) <| g_do rfl rfl rfl rfl rfl h67 <| g_v rfl (r_eql rfl rfl) <| g_v rfl (r_pick1 rfl h67) ?_
     refine g_v rfl r_move ?_
     refine g_if rfl rfl rfl rfl rfl (fun h68 => ?_) (fun h68 => ?_)
     ·
      replace hm := ite_t hm (of_decide_eq_true h68)
      refine g_v rfl (r_field (n := 3) Try.underlying43 rfl Try.sizeOf3 rfl rfl) <| g_do rfl rfl rfl rfl rfl h68 <| g_v rfl (r_load (tag := 100020) rfl rfl rfl Try.isAgg3) <| g_do rfl rfl rfl rfl rfl h68 <| g_v rfl (r_field (n := 3) Try.underlying43 rfl Try.sizeOf3 rfl rfl) <| g_do rfl rfl rfl rfl rfl h68 <| g_v rfl (r_load (tag := 100030) rfl rfl rfl Try.isAgg3) <| g_do rfl rfl rfl rfl rfl h68 <| g_v rfl (r_eql rfl rfl) <| g_v rfl (r_pick1 rfl h68) ?_
      refine g_v rfl r_move ?_
      refine g_if rfl rfl rfl rfl rfl (fun h69 => ?_) (fun h69 => ?_)
      ·
       replace hm := ite_t hm (of_decide_eq_true h69)
       refine g_v rfl (r_field (n := 4) Try.underlying43 rfl Try.sizeOf3 rfl rfl) <| g_do rfl rfl rfl rfl rfl h69 <| g_v rfl (r_load (tag := 100020) rfl rfl rfl Try.isAgg3) <| g_do rfl rfl rfl rfl rfl h69 <| g_v rfl (r_field (n := 4) Try.underlying43 rfl Try.sizeOf3 rfl rfl) <| g_do rfl rfl rfl rfl rfl h69 <| g_v rfl (r_load (tag := 100030) rfl rfl rfl Try.isAgg3) <| g_do rfl rfl rfl rfl rfl h69 <| g_v rfl (r_eql rfl rfl) <| g_v rfl (r_pick1 rfl h69) ?_
       refine g_v rfl r_assign <| g_nil <| d_then ?_
       refine c_flat [(4, .bool (decide (p0.fLeft = p1.fLeft)))] ⟨rfl, trivial⟩ (fun u => ?_)
       refine c_ret ?_
       cases hm
       exact d_retC () Try.results29 (res_tmp (res_nil rfl)) trivial (fun W h => ok_pre (H1 := [_, _]) (R1 := []) h (fun W hφ => hφ)) (.inr rfl)
      replace hm := ite_f hm (of_decide_eq_false h69)
      iterate 4 refine g_no rfl rfl rfl rfl rfl h69 ?_
      refine g_v rfl (r_pick0 rfl h69) <| g_v rfl r_assign <| g_nil <| d_then ?_
      refine c_flat [(4, .bool false)] ⟨rfl, trivial⟩ (fun u => ?_)
      refine c_ret ?_
      cases hm
      exact d_retC () Try.results29 (res_tmp (res_nil rfl)) trivial (fun W h => ok_pre (H1 := [_, _]) (R1 := []) h (fun W hφ => hφ)) (.inr rfl)
     replace hm := ite_f hm (of_decide_eq_false h68)
     iterate 4 refine g_no rfl rfl rfl rfl rfl h68 ?_
     refine g_v rfl (r_pick0 rfl h68) <| g_v rfl r_move ?_
     iterate 5 refine g_no rfl rfl rfl rfl rfl rfl ?_
     refine g_v rfl (r_pick0 rfl rfl) <| g_v rfl r_assign <| g_nil <| d_then ?_
     refine c_flat [(4, .bool false)] ⟨rfl, trivial⟩ (fun u => ?_)
     refine c_ret ?_
     cases hm
     exact d_retC () Try.results29 (res_tmp (res_nil rfl)) trivial (fun W h => ok_pre (H1 := [_, _]) (R1 := []) h (fun W hφ => hφ)) (.inr rfl)
    replace hm := ite_f hm (of_decide_eq_false h67)
    iterate 4 refine g_no rfl rfl rfl rfl rfl h67 ?_
    refine g_v rfl (r_pick0 rfl h67) <| g_v rfl r_move ?_
    iterate 5 refine g_no rfl rfl rfl rfl rfl rfl ?_
    refine g_v rfl (r_pick0 rfl rfl) <| g_v rfl r_move ?_
    iterate 5 refine g_no rfl rfl rfl rfl rfl rfl ?_
    refine g_v rfl (r_pick0 rfl rfl) <| g_v rfl r_assign <| g_nil <| d_then ?_
    refine c_flat [(4, .bool false)] ⟨rfl, trivial⟩ (fun u => ?_)
    refine c_ret ?_
    cases hm
    exact d_retC () Try.results29 (res_tmp (res_nil rfl)) trivial (fun W h => ok_pre (H1 := [_, _]) (R1 := []) h (fun W hφ => hφ)) (.inr rfl)
   replace hm := ite_f hm (of_decide_eq_false h66)
   iterate 4 refine g_no rfl rfl rfl rfl rfl h66 ?_
   refine g_v rfl (r_pick0 rfl h66) <| g_v rfl r_move ?_
   iterate 5 refine g_no rfl rfl rfl rfl rfl rfl ?_
   refine g_v rfl (r_pick0 rfl rfl) <| g_v rfl r_move ?_
   iterate 5 refine g_no rfl rfl rfl rfl rfl rfl ?_
   refine g_v rfl (r_pick0 rfl rfl) <| g_v rfl r_move ?_
   iterate 5 refine g_no rfl rfl rfl rfl rfl rfl ?_
   refine g_v rfl (r_pick0 rfl rfl) <| g_v rfl r_assign <| g_nil <| d_then ?_
   refine c_flat [(4, .bool false)] ⟨rfl, trivial⟩ (fun u => ?_)
   refine c_ret ?_
   cases hm
   exact d_retC () Try.results29 (res_tmp (res_nil rfl)) trivial (fun W h => ok_pre (H1 := [_, _]) (R1 := []) h (fun W hφ => hφ)) (.inr rfl)
  replace hm := ite_f hm (bool_nt h65)
  iterate 4 refine g_no rfl rfl rfl rfl rfl h65 ?_
  refine g_v rfl (r_pick0 rfl h65) <| g_v rfl r_move ?_
  iterate 5 refine g_no rfl rfl rfl rfl rfl rfl ?_
  refine g_v rfl (r_pick0 rfl rfl) <| g_v rfl r_move ?_
  iterate 5 refine g_no rfl rfl rfl rfl rfl rfl ?_
  refine g_v rfl (r_pick0 rfl rfl) <| g_v rfl r_move ?_
  iterate 5 refine g_no rfl rfl rfl rfl rfl rfl ?_
  refine g_v rfl (r_pick0 rfl rfl) <| g_v rfl r_move ?_
  iterate 5 refine g_no rfl rfl rfl rfl rfl rfl ?_
  refine g_v rfl (r_pick0 rfl rfl) <| g_v rfl r_assign <| g_nil <| d_then ?_
  refine c_flat [(4, .bool false)] ⟨rfl, trivial⟩ (fun u => ?_)
  refine c_ret ?_
  cases hm
  exact d_retC () Try.results29 (res_tmp (res_nil rfl)) trivial (fun W h => ok_pre (H1 := [_, _]) (R1 := []) h (fun W hφ => hφ)) (.inr rfl)
 replace hm := ite_f hm (bool_nt h64)
 refine g_v rfl (r_pick0 rfl h64) <| g_v rfl r_move ?_
 iterate 5 refine g_no rfl rfl rfl rfl rfl rfl ?_
 refine g_v rfl (r_pick0 rfl rfl) <| g_v rfl r_move ?_
 iterate 5 refine g_no rfl rfl rfl rfl rfl rfl ?_
 refine g_v rfl (r_pick0 rfl rfl) <| g_v rfl r_move ?_
 iterate 5 refine g_no rfl rfl rfl rfl rfl rfl ?_
 refine g_v rfl (r_pick0 rfl rfl) <| g_v rfl r_move ?_
 iterate 5 refine g_no rfl rfl rfl rfl rfl rfl ?_
 refine g_v rfl (r_pick0 rfl rfl) <| g_v rfl r_move ?_
 iterate 5 refine g_no rfl rfl rfl rfl rfl rfl ?_
 refine g_v rfl (r_pick0 rfl rfl) <| g_v rfl r_assign <| g_nil <| d_then ?_
 refine c_flat [(4, .bool false)] ⟨rfl, trivial⟩ (fun u => ?_)
 refine c_ret ?_
 cases hm
 exact d_retC () Try.results29 (res_tmp (res_nil rfl)) trivial (fun W h => ok_pre (H1 := [_, _]) (R1 := []) h (fun W hφ => hφ)) (.inr rfl)
noncomputable def m_ref11_List_j1 (p0 : ByteArray) (l107 : List Int) : Option ((List Int) × Bool) :=
  some (l107, decide (0 < (p0.size : Int)))
noncomputable def m_ref11_List_j3 (p0 : ByteArray) (i129 : Int) (l126 : List Int) : Option (((List Int) × Int) ⊕ ((List Int) ⊕ ((List Int) × Bool))) :=
  (sat_ p0 i129).bind fun b174 =>
  (app 8 l126 [w64 b174]).bind fun l176 =>
  some (.inl (l176, w64 (i129 + 1)))
noncomputable def m_ref11_List_s2 (p0 : ByteArray) (l126 : List Int) (i129 : Int) : Option (((List Int) × Int) ⊕ ((List Int) ⊕ ((List Int) × Bool))) :=
  if i129 < (p0.size : Int) then
    (sat_ p0 i129).bind fun b190 =>
    if 63 < b190 then
      some (.inr (.inr (([] : List Int), false)))
    else
      if 0 < i129 then
        (sat_ p0 i129).bind fun b193 =>
        (sat_ p0 (w64 (i129 - 1))).bind fun b194 =>
        if b193 ≤ b194 then
          some (.inr (.inr (([] : List Int), false)))
        else
          m_ref11_List_j3 p0 i129 l126
      else
        m_ref11_List_j3 p0 i129 l126
  else
    some (.inr (.inl l126))
noncomputable def m_ref11_List (p0 : ByteArray) : Option ((List Int) × Bool) :=
  (loop (fun s => m_ref11_List_s2 p0 s.1 s.2) (([] : List Int), 0)).bind fun e => Sum.elim (fun e => m_ref11_List_j1 p0 e) (fun x => some x) e
theorem c_ref11_List {w0 : World} {M : Nat → Prop} {H : List (Nat × Nat × Obj)} {R : List (Nat × Row)} {φ : World → Prop} (p0 : ByteArray) (r : (List Int) × Bool) (hm : m_ref11_List p0 = some r) :
    Cn Try.prog 55 #[.string p0] ⟨w0, M, H, R, φ⟩ (fun x : Option Addr × Nat => .tuple #[.slice x.1 r.1.length x.2, .bool r.2]) (fun x => r.1.length ≤ x.2) (fun x => ⟨w0, M, H, (2000, ⟨.slice x.1 r.1.length x.2, 3, 1, r.1.length, r.1.flatMap (fun x : Int => [Value.int .i64 x])⟩) :: R, φ⟩) := by
 unfold m_ref11_List at hm
 refine cn_intro (fn := Try.f55) (N := 41) Try.func55 rfl Try.ntmps55 rfl <| c_seq <| c_region <| g_v rfl r_assign <| g_v rfl r_assign <| g_nil <| d_then <| c_seq <| c_region <| g_v rfl r_assign ?_
 refine g_nil <| d_then <| c_seq <| c_seq <| c_region <| g_v rfl r_assign <| g_nil <| d_then <| c_sta _ (fun W h => nilR h 17 3 1) ?_
 refine c_cut (ι := (List Int) × Option Addr × Nat) [0, 4] (fun ⟨l107, A108, c109⟩ => [(4, .slice A108 l107.length c109)]) (fun ⟨l107, A108, c109⟩ => ⟨w0, M, H, (17, ⟨.slice A108 l107.length c109, 3, 1, l107.length, l107.flatMap (fun x : Int => [Value.int .i64 x])⟩) :: R, φ⟩) (fun ⟨l107, A108, c109⟩ => m_ref11_List_j1 p0 l107 = some r ∧ l107.length ≤ c109) ?_ (fun ⟨l107, A108, c109⟩ u ⟨hm, hc109⟩ => ?_)
 ·
  refine c_block ?_
  replace hm := bnd hm
  obtain ⟨out2, hl2, hr2⟩ := hm
  obtain ⟨n156', hl2⟩ := loop_lp hl2
  refine c_loopU (ι := Nat × (List Int) × Int × Option Addr × Nat) [0, 4, 5] (fun ⟨n156, l126, i129, A127, c128⟩ => [(4, .slice A127 l126.length c128), (5, .int .i64 i129)]) (fun ⟨n156, l126, i129, A127, c128⟩ => ⟨w0, M, H, (17, ⟨.slice A127 l126.length c128, 3, 1, l126.length, l126.flatMap (fun x : Int => [Value.int .i64 x])⟩) :: R, φ⟩) (fun ⟨n156, l126, i129, A127, c128⟩ => Lp (fun s => m_ref11_List_s2 p0 s.1 s.2) n156 (l126, i129) out2 ∧ l126.length ≤ c128) (fun ⟨n156, l126, i129, A127, c128⟩ => n156) (n156', ([] : List Int), 0, none, 0) ⟨hl2, (Nat.le_refl 0)⟩ ⟨rfl, rfl, rfl, trivial⟩ (fun W h => h.phi (fun W hφ => hφ)) (fun ⟨n156, l126, i129, A127, c128⟩ u ⟨hlp, hc128⟩ => ?_)
  obtain ⟨o2, hm, hnx2⟩ := lp_step hlp
  clear hlp
  replace hm : m_ref11_List_s2 p0 l126 i129 = some o2 := hm
  unfold m_ref11_List_s2 at hm
  refine c_flat [(0, .string p0), (4, .slice A127 l126.length c128), (5, .int .i64 i129)] ⟨rfl, rfl, rfl, trivial⟩ (fun u => ?_)
  refine c_sta ⟨w0, M, H, (17, ⟨.slice A127 l126.length c128, 3, 1, l126.length, l126.flatMap (fun x : Int => [Value.int .i64 x])⟩) :: R, φ⟩ (fun _ h => h) <| c_seq <| c_seq <| c_region <| g_v rfl r_move <| g_v rfl r_move <| g_v rfl (r_len Try.underlying9 rfl) <| g_v rfl (r_lss rfl rfl) <| g_nil <| d_then ?_
  refine c_cond rfl (fun h157 => ?_) (fun h157 => ?_)
  ·
   replace hm := ite_t hm (of_decide_eq_true h157)
   refine c_skip <| d_then <| c_seq <| c_block <| c_seq ?_
   refine c_cut (ι := Unit) [0, 4, 5] (fun _ => []) (fun _ => ⟨w0, M, H, (17, ⟨.slice A127 l126.length c128, 3, 1, l126.length, l126.flatMap (fun x : Int => [Value.int .i64 x])⟩) :: R, φ⟩) (fun _ => m_ref11_List_j3 p0 i129 l126 = some o2) ?_ (fun _ u hm => ?_)
   ·
    refine c_seq <| ga_start (n := 18) ⟨w0, M, H, (17, ⟨.slice A127 l126.length c128, 3, 1, l126.length, l126.flatMap (fun x : Int => [Value.int .i64 x])⟩) :: R, φ⟩ [] #[false, false, false, false, false, false, false, false, false, false, false, false, false, false, false, false, false, false] (fun W h => h.phi (fun W hφ => hφ)) mixed rfl rfl <| ga_v (i := 0) (bz 18 1) rfl (by kernel_rfl) (fun _ _ _ _ h => h) rfl (r_move) <| ga_r (i := 1) (bz 18 3) rfl (by kernel_rfl) (by decide) rfl (r_move) ?_
    replace hm := bnd hm
    obtain ⟨b190, hb190, hm⟩ := hm
    refine ga_r (i := 2) (bz 18 7) rfl (by kernel_rfl) (by decide) rfl (r_sat Try.underlying9 rfl rfl hb190) <| ga_r (i := 3) (bz 18 15) rfl (by kernel_rfl) (by decide) rfl (r_gtr rfl rfl) <| ga_r (i := 4) (bz 18 31) rfl (by kernel_rfl) (by decide) rfl (r_move) ?_
    refine ga_if (t := 16) rfl (fun h191 => ?_) (fun h191 => ?_)
    ·
     replace hm := ite_t hm (of_decide_eq_true h191)
     refine ga_no (i := 5) (bz 18 63) rfl (by kernel_rfl) (fun _ _ _ _ h => h) rfl rfl rfl rfl rfl h191 <| ga_no (i := 6) (bz 18 127) rfl (by kernel_rfl) (fun _ _ _ _ h => h) rfl rfl rfl rfl rfl h191 <| ga_no (i := 7) (bz 18 255) rfl (by kernel_rfl) (fun _ _ _ _ h => h) rfl rfl rfl rfl rfl h191 <| ga_nu (i := 8) (bz 18 511) rfl (by kernel_rfl) (fun _ _ _ _ h => h) rfl rfl rfl rfl rfl <| ga_nu (i := 9) (bz 18 1023) rfl (by kernel_rfl) (fun _ _ _ _ h => h) rfl rfl rfl rfl rfl <| ga_nu (i := 10) (bz 18 2047) rfl (by kernel_rfl) (fun _ _ _ _ h => h) rfl rfl rfl rfl rfl <| ga_nu (i := 11) (bz 18 4095) rfl (by kernel_rfl) (fun _ _ _ _ h => h) rfl rfl rfl rfl rfl <| ga_nu (i := 12) (bz 18 8191) rfl (by kernel_rfl) (fun _ _ _ _ h => h) rfl rfl rfl rfl rfl <| ga_nu (i := 13) (bz 18 16383) rfl (by kernel_rfl) (fun _ _ _ _ h => h) rfl rfl rfl rfl rfl <| ga_nu (i := 14) (bz 18 32767) rfl (by kernel_rfl) (fun _ _ _ _ h => h) rfl rfl rfl rfl rfl ?_
     refine ga_nu (i := 15) (bz 18 65535) rfl (by kernel_rfl) (fun _ _ _ _ h => h) rfl rfl rfl rfl rfl <| ga_no (i := 16) (bz 18 131071) rfl (by kernel_rfl) (fun _ _ _ _ h => h) rfl rfl rfl rfl rfl h191 <| ga_r (i := 17) (bz 18 262143) rfl (by kernel_rfl) (by decide) rfl (r_pick1 rfl h191) <| ga_done (by kernel_rfl) <| d_then ?_
     refine c_flat [(0, .string p0), (4, .slice A127 l126.length c128), (5, .int .i64 i129), (29, .bool true)] ⟨rfl, rfl, rfl, rfl, trivial⟩ (fun u => ?_)
     refine c_cond1 rfl rfl <| c_seq <| c_region <| g_v rfl r_assign <| g_v rfl r_assign <| g_nil <| d_then <| c_ret <| d_ret_then <| d_ret_then ?_
     refine d_ret_block <| d_ret_then <| d_ret_then <| d_ret_block <| d_ret_then <| d_ret_then ?_
     replace hm := nx_out (C := (fun e : (List Int) ⊕ ((List Int) × Bool) => Sum.elim (fun e => m_ref11_List_j1 p0 e) (fun x => some x) e = some r)) hm hnx2 hr2
     replace hm : some (([] : List Int), false) = some r := hm
     cases hm
     refine d_sta _ (fun W h => nilR h 26 3 1) <| d_sta _ (fun W h => ok_frontR (t := 26) (t' := 2000) h rfl) ?_
     exact d_retC (none, 0) Try.results55 (res_tmp (res_tmp (res_nil rfl))) (Nat.le_refl 0) (fun W h => (h.dropR (t := 17) rfl).phi (fun W hφ => hφ)) (.inr rfl)
    replace hm := ite_f hm (of_decide_eq_false h191)
    refine ga_rG (i := 5) (bz 18 63) rfl (by kernel_rfl) (by decide) rfl rfl rfl rfl rfl h191 (r_move) <| ga_rG (i := 6) (bz 18 127) rfl (by kernel_rfl) (by decide) rfl rfl rfl rfl rfl h191 (r_gtr rfl rfl) <| ga_rG (i := 7) (bz 18 255) rfl (by kernel_rfl) (by decide) rfl rfl rfl rfl rfl h191 (r_move) ?_
    refine ga_if (t := 19) rfl (fun h192 => ?_) (fun h192 => ?_)
    ·
     replace hm := ite_t hm (of_decide_eq_true h192)
     refine ga_do (i := 8) (bz 18 511) rfl (by kernel_rfl) (fun _ _ _ _ h => h) rfl rfl rfl rfl rfl h192 (r_move) <| ga_do (i := 9) (bz 18 1023) rfl (by kernel_rfl) (fun _ _ _ _ h => h) rfl rfl rfl rfl rfl h192 (r_move) ?_
     replace hm := bnd hm
     obtain ⟨b193, hb193, hm⟩ := hm
     refine ga_do (i := 10) (bz 18 2047) rfl (by kernel_rfl) (fun _ _ _ _ h => h) rfl rfl rfl rfl rfl h192 (r_sat Try.underlying9 rfl rfl hb193) <| ga_do (i := 11) (bz 18 4095) rfl (by kernel_rfl) (fun _ _ _ _ h => h) rfl rfl rfl rfl rfl h192 (r_move) <| ga_rG (i := 12) (bz 18 8191) rfl (by kernel_rfl) (by decide) rfl rfl rfl rfl rfl h192 (r_move) <| ga_rG (i := 13) (bz 18 16383) rfl (by kernel_rfl) (by decide) rfl rfl rfl rfl rfl h192 (r_sub rfl rfl rfl) ?_
     replace hm := bnd hm
     obtain ⟨b194, hb194, hm⟩ := hm
     refine ga_rG (i := 14) (bz 18 32767) rfl (by kernel_rfl) (by decide) rfl rfl rfl rfl rfl h192 (r_sat Try.underlying9 rfl rfl hb194) <| ga_rG (i := 15) (bz 18 65535) rfl (by kernel_rfl) (by decide) rfl rfl rfl rfl rfl h192 (r_leq rfl rfl) <| ga_rG (i := 16) (bz 18 131071) rfl (by kernel_rfl) (by decide) rfl rfl rfl rfl rfl h191 (r_pick1 rfl h192) <| ga_r (i := 17) (bz 18 262143) rfl (by kernel_rfl) (by decide) rfl (r_pick0 rfl h191) <| ga_done (by kernel_rfl) <| d_then ?_
     refine c_flat [(0, .string p0), (4, .slice A127 l126.length c128), (5, .int .i64 i129), (29, .bool (decide (b193 ≤ b194)))] ⟨rfl, rfl, rfl, rfl, trivial⟩ (fun u => ?_)
     refine c_cond rfl (fun h195 => ?_) (fun h195 => ?_)
     ·
      replace hm := ite_t hm (of_decide_eq_true h195)
      refine c_seq <| c_region <| g_v rfl r_assign <| g_v rfl r_assign <| g_nil <| d_then <| c_ret <| d_ret_then <| d_ret_then <| d_ret_block ?_
      refine d_ret_then <| d_ret_then <| d_ret_block <| d_ret_then <| d_ret_then ?_
      replace hm := nx_out (C := (fun e : (List Int) ⊕ ((List Int) × Bool) => Sum.elim (fun e => m_ref11_List_j1 p0 e) (fun x => some x) e = some r)) hm hnx2 hr2
      replace hm : some (([] : List Int), false) = some r := hm
      cases hm
      refine d_sta _ (fun W h => nilR h 27 3 1) <| d_sta _ (fun W h => ok_frontR (t := 27) (t' := 2000) h rfl) ?_
      exact d_retC (none, 0) Try.results55 (res_tmp (res_tmp (res_nil rfl))) (Nat.le_refl 0) (fun W h => (h.dropR (t := 17) rfl).phi (fun W hφ => hφ)) (.inr rfl)
     replace hm := ite_f hm (of_decide_eq_false h195)
     refine c_skip ?_
     exact d_round () hm Nat.zero_lt_one ⟨rfl, rfl, rfl, trivial⟩ (fun W h => h.phi (fun W hφ => hφ))
    replace hm := ite_f hm (of_decide_eq_false h192)
    refine ga_no (i := 8) (bz 18 511) rfl (by kernel_rfl) (fun _ _ _ _ h => h) rfl rfl rfl rfl rfl h192 <| ga_no (i := 9) (bz 18 1023) rfl (by kernel_rfl) (fun _ _ _ _ h => h) rfl rfl rfl rfl rfl h192 <| ga_no (i := 10) (bz 18 2047) rfl (by kernel_rfl) (fun _ _ _ _ h => h) rfl rfl rfl rfl rfl h192 <| ga_no (i := 11) (bz 18 4095) rfl (by kernel_rfl) (fun _ _ _ _ h => h) rfl rfl rfl rfl rfl h192 <| ga_no (i := 12) (bz 18 8191) rfl (by kernel_rfl) (fun _ _ _ _ h => h) rfl rfl rfl rfl rfl h192 <| ga_no (i := 13) (bz 18 16383) rfl (by kernel_rfl) (fun _ _ _ _ h => h) rfl rfl rfl rfl rfl h192 <| ga_no (i := 14) (bz 18 32767) rfl (by kernel_rfl) (fun _ _ _ _ h => h) rfl rfl rfl rfl rfl h192 <| ga_no (i := 15) (bz 18 65535) rfl (by kernel_rfl) (fun _ _ _ _ h => h) rfl rfl rfl rfl rfl h192 <| ga_rG (i := 16) (bz 18 131071) rfl (by kernel_rfl) (by decide) rfl rfl rfl rfl rfl h191 (r_pick0 rfl h192) <| ga_r (i := 17) (bz 18 262143) rfl (by kernel_rfl) (by decide) rfl (r_pick0 rfl h191) ?_
    refine ga_done (by kernel_rfl) <| d_then ?_
    refine c_flat [(0, .string p0), (4, .slice A127 l126.length c128), (5, .int .i64 i129), (29, .bool false)] ⟨rfl, rfl, rfl, rfl, trivial⟩ (fun u => ?_)
    refine c_cond0 rfl rfl <| c_skip ?_
    exact d_round () hm Nat.zero_lt_one ⟨rfl, rfl, rfl, trivial⟩ (fun W h => h.phi (fun W hφ => hφ))
   unfold m_ref11_List_j3 at hm
   refine d_flat [(0, .string p0), (4, .slice A127 l126.length c128), (5, .int .i64 i129)] ⟨rfl, rfl, rfl, trivial⟩ (fun u => ?_)
   refine d_then <| c_region ?_
   iterate 3 refine g_v rfl r_move ?_
   replace hm := bnd hm
   obtain ⟨b174, hb174, hm⟩ := hm
   refine g_v rfl (r_sat Try.underlying9 rfl rfl hb174) <| g_v rfl (r_conv Try.underlying5 Try.underlying3 rfl rfl) ?_
   refine g_e rfl (e_lit (tag := 100350) (l := [w64 b174]) (enc := (fun x : Int => [Value.int .i64 x])) (sz := 1) rfl Try.underlying23 (lit3_0 _) rfl rfl (fun _ => rfl)) (fun g175 _ => ?_)
   replace hm := bnd hm
   obtain ⟨l176, hl176, hm⟩ := hm
   refine g_e rfl (e_appR (enc := (fun x : Int => [Value.int .i64 x])) (l := l126) (l1 := [w64 b174]) (l2 := l176) (tag := 17) Try.underlying23 inf3_10 rfl (by decide) (by decide) (fun _ => rfl) (fun _ => rfl) rfl hc128 rfl rfl (fun W hS => rowCl (tag := 100350) rfl W hS) hl176) (fun ⟨A177, c178⟩ hc178 => ?_)
   refine g_v rfl r_assign <| g_nil <| d_normal_block <| d_then <| c_region <| g_v rfl r_move <| g_v rfl (r_add rfl rfl rfl) <| g_v rfl r_assign <| g_nil ?_
   obtain ⟨n179, hn179, hlp⟩ := nx_inl hm hnx2
   exact d_round (n179, l176, w64 (i129 + 1), A177, c178) ⟨hlp, hc178⟩ hn179 ⟨rfl, rfl, rfl, trivial⟩ (fun W h => (h.dropR (t := 100350) rfl).phi (fun W hφ => hφ))
  replace hm := ite_f hm (of_decide_eq_false h157)
  refine c_exit <| d_exit_then <| d_exit_then <| d_exit_block ?_
  replace hm := nx_out (C := (fun e : (List Int) ⊕ ((List Int) × Bool) => Sum.elim (fun e => m_ref11_List_j1 p0 e) (fun x => some x) e = some r)) hm hnx2 hr2
  exact d_round (l126, A127, c128) ⟨hm, hc128⟩ Nat.zero_lt_one ⟨rfl, rfl, trivial⟩ (fun W h => h.phi (fun W hφ => hφ))
 unfold m_ref11_List_j1 at hm
 refine d_flat [(0, .string p0), (4, .slice A108 l107.length c109)] ⟨rfl, rfl, trivial⟩ (fun u => ?_)
 refine d_sta ⟨w0, M, H, (17, ⟨.slice A108 l107.length c109, 3, 1, l107.length, l107.flatMap (fun x : Int => [Value.int .i64 x])⟩) :: R, φ⟩ (fun _ h => h) <| d_then <| c_seq <| c_region <| g_v rfl r_move <| g_v rfl r_move <| g_v rfl (r_len Try.underlying9 rfl) <| g_v rfl (r_gtr rfl rfl) <| g_v rfl r_assign <| g_v rfl r_assign ?_
 refine g_nil <| d_then <| c_ret ?_
 cases hm
 refine d_sta _ (fun W h => ok_frontR (t := 17) (t' := 2000) h rfl) ?_
 exact d_retC (A108, c109) Try.results55 (res_tmp (res_tmp (res_nil rfl))) hc109 (fun W h => h.phi (fun W hφ => hφ)) (.inr rfl)
noncomputable def m_ref11_Now_j1  (l56 : List Int) : Option (List Int) :=
  some l56
noncomputable def m_ref11_Now_s2 (p0 : GHard) (l85 : List Int) (i89 : Int) : Option (((List Int) × Int) ⊕ (List Int)) :=
  if i89 < (p0.fLog.fEntries.length : Int) then
    (at_ p0.fLog.fEntries i89).bind fun x117 =>
    if x117.fKind = 1 then
      (at_ p0.fLog.fEntries i89).bind fun x123 =>
      (m_ref11_List x123.fData).bind fun (z134 : (List Int) × Bool) =>
      some (.inl (z134.1, w64 (i89 + 1)))
    else
      some (.inl (l85, w64 (i89 + 1)))
  else
    some (.inr l85)
noncomputable def m_ref11_Now (p0 : GHard) : Option (List Int) :=
  (loop (fun s => m_ref11_Now_s2 p0 s.1 s.2) (p0.fVoters, 0)).bind fun e => m_ref11_Now_j1 e
theorem c_ref11_Now {w0 : World} {M : Nat → Prop} {H : List (Nat × Nat × Obj)} {R : List (Nat × Row)} {φ : World → Prop} (p0 : GHard) (Ap0_0 : Option Addr) (cp0_0 : Nat) (hcp0_0 : p0.fVoters.length ≤ cp0_0) (fp0_0 : ∀ W, φ W → Cl W Ap0_0 (p0.fVoters.flatMap (fun x : Int => [Value.int .i64 x]))) (Ap0_1 : Option Addr) (cp0_1 : Nat) (hcp0_1 : p0.fLog.fEntries.length ≤ cp0_1) (fp0_1 : ∀ W, (Sta.mk w0 M H R φ).ok W → Cl W Ap0_1 (p0.fLog.fEntries.flatMap GEntry.enc)) (r : (List Int)) (hm : m_ref11_Now p0 = some r) :
    Cn Try.prog 49 #[.agg #[.int .i64 p0.fTerm, .int .i64 p0.fVote, .slice Ap0_0 p0.fVoters.length cp0_0, .string p0.fSnap, .int .i64 p0.fLog.fBase, .int .i64 p0.fLog.fBaseTerm, .slice Ap0_1 p0.fLog.fEntries.length cp0_1]] ⟨w0, M, H, R, φ⟩ (fun x : Option Addr × Nat => .slice x.1 r.length x.2) (fun x => r.length ≤ x.2) (fun x => ⟨w0, M, H, R, fun W => φ W ∧ Cl W x.1 (r.flatMap (fun x : Int => [Value.int .i64 x]))⟩) := by
 unfold m_ref11_Now at hm
 refine cn_intro (fn := Try.f49) (N := 35) Try.func49 rfl Try.ntmps49 rfl <| c_seq <| c_region ?_
 refine g_e rfl (e_box 100010 rfl) (fun g1 _ => ?_)
 refine g_v rfl r_assign <| g_nil <| d_then <| c_seq <| c_region <| g_v rfl (r_field (n := 2) Try.underlying40 rfl Try.sizeOf23 rfl rfl) <| g_v rfl (r_load (tag := 100010) rfl rfl rfl Try.isAgg23) <| g_v rfl r_assign <| g_nil <| d_then ?_
 refine c_seq <| c_seq <| c_region <| g_v rfl r_assign <| g_nil <| d_then ?_
 refine c_cut (ι := (List Int) × Option Addr × Nat) [3] (fun ⟨l56, A57, c58⟩ => [(3, .slice A57 l56.length c58)]) (fun ⟨l56, A57, c58⟩ => ⟨w0, M, H, R, fun W => φ W ∧ Cl W A57 (l56.flatMap (fun x : Int => [Value.int .i64 x]))⟩) (fun ⟨l56, A57, c58⟩ => m_ref11_Now_j1 l56 = some r ∧ l56.length ≤ c58) ?_ (fun ⟨l56, A57, c58⟩ u ⟨hm, hc58⟩ => ?_)
 ·
  refine c_block ?_
  replace hm := bnd hm
  obtain ⟨out2, hl2, hr2⟩ := hm
  obtain ⟨n114', hl2⟩ := loop_lp hl2
  refine c_loopU (ι := Nat × (List Int) × Int × Option Addr × Nat) [1, 3, 4] (fun ⟨n114, l85, i89, A86, c87⟩ => [(3, .slice A86 l85.length c87), (4, .int .i64 i89)]) (fun ⟨n114, l85, i89, A86, c87⟩ => ⟨w0, M, (100010, g1, .cells #[.int .i64 p0.fTerm, .int .i64 p0.fVote, .slice Ap0_0 p0.fVoters.length cp0_0, .string p0.fSnap, .int .i64 p0.fLog.fBase, .int .i64 p0.fLog.fBaseTerm, .slice Ap0_1 p0.fLog.fEntries.length cp0_1] 40 (0, 0)) :: H, R, fun W => φ W ∧ Cl W A86 (l85.flatMap (fun x : Int => [Value.int .i64 x]))⟩) (fun ⟨n114, l85, i89, A86, c87⟩ => Lp (fun s => m_ref11_Now_s2 p0 s.1 s.2) n114 (l85, i89) out2 ∧ l85.length ≤ c87) (fun ⟨n114, l85, i89, A86, c87⟩ => n114) (n114', p0.fVoters, 0, Ap0_0, cp0_0) ⟨hl2, hcp0_0⟩ ⟨rfl, rfl, rfl, trivial⟩ (fun W h => h.phi (fun W hφ => ⟨hφ, (fun W h => fp0_0 W h) W hφ⟩)) (fun ⟨n114, l85, i89, A86, c87⟩ u ⟨hlp, hc87⟩ => ?_)
  obtain ⟨o2, hm, hnx2⟩ := lp_step hlp
  clear hlp
  replace hm : m_ref11_Now_s2 p0 l85 i89 = some o2 := hm
  unfold m_ref11_Now_s2 at hm
  refine c_abs (fun φ115 q115' => ?_)
  have q115 : ∀ W, φ115 W → φ W := fun W h => (q115' W h).1
  have f88 := fun (W : World) (h : φ115 W) => (q115' W h).2
  refine c_flat [(1, .pointer (some ⟨g1, 0, none⟩)), (3, .slice A86 l85.length c87), (4, .int .i64 i89)] ⟨rfl, rfl, rfl, trivial⟩ (fun u => ?_)
  refine c_sta ⟨w0, M, (100010, g1, .cells #[.int .i64 p0.fTerm, .int .i64 p0.fVote, .slice Ap0_0 p0.fVoters.length cp0_0, .string p0.fSnap, .int .i64 p0.fLog.fBase, .int .i64 p0.fLog.fBaseTerm, .slice Ap0_1 p0.fLog.fEntries.length cp0_1] 40 (0, 0)) :: H, R, φ115⟩ (fun _ h => h) <| c_seq <| c_seq <| c_region <| g_v rfl r_move <| g_v rfl (r_field (n := 4) Try.underlying40 rfl Try.sizeOf38 rfl rfl) <| g_v rfl (r_field (n := 6) Try.underlying38 rfl Try.sizeOf22 rfl rfl) <| g_v rfl (r_load (tag := 100010) rfl rfl rfl Try.isAgg22) <| g_v rfl (r_lenL Try.underlying22 rfl) <| g_v rfl (r_lss rfl rfl) ?_
  refine g_nil <| d_then ?_
  refine c_cond rfl (fun h116 => ?_) (fun h116 => ?_)
  ·
   replace hm := ite_t hm (of_decide_eq_true h116)
   refine c_skip <| d_then <| c_seq <| c_block <| c_seq <| c_region <| g_v rfl (r_field (n := 4) Try.underlying40 rfl Try.sizeOf38 rfl rfl) <| g_v rfl (r_field (n := 6) Try.underlying38 rfl Try.sizeOf22 rfl rfl) <| g_v rfl (r_load (tag := 100010) rfl rfl rfl Try.isAgg22) <| g_v rfl r_move ?_
   replace hm := bnd hm
   obtain ⟨x117, hx117, hm⟩ := hm
   refine g_know _ (fun W hS => cl_at (p := (Sta.mk w0 M H R φ).ok) (sz := 3) (fun _ => rfl) (by decide) (ok_pre (H1 := [_]) (R1 := []) hS (fun W h => (q115 _ h))) fp0_1 hx117) ?_
   rintro ⟨ad118, hA120, f119⟩
   refine g_v rfl (r_ix Try.underlying22 Try.sizeOf36 rfl hA120 rfl hx117) ?_
   have f121 := fun (W : World) (h : (Sta.mk w0 M H R φ).ok W) => Cl.drop (f119 W h) 1
   refine g_v rfl (r_fieldF Try.underlying36 rfl Try.sizeOf3 rfl) <| g_v rfl (r_ld rfl Try.isAgg3 (fun W hS => Cl.head (f121 W (ok_pre (H1 := [_]) (R1 := []) hS (fun W h => (q115 _ h)))))) <| g_v rfl (r_eql rfl rfl) <| g_nil <| d_then ?_
   refine c_flat [(1, .pointer (some ⟨g1, 0, none⟩)), (3, .slice A86 l85.length c87), (4, .int .i64 i89), (22, .bool (decide (x117.fKind = 1)))] ⟨rfl, rfl, rfl, rfl, trivial⟩ (fun u => ?_)
   refine c_cond rfl (fun h122 => ?_) (fun h122 => ?_)
   ·
    replace hm := ite_t hm (of_decide_eq_true h122)
    refine c_region <| g_v rfl (r_field (n := 4) Try.underlying40 rfl Try.sizeOf38 rfl rfl) <| g_v rfl (r_field (n := 6) Try.underlying38 rfl Try.sizeOf22 rfl rfl) <| g_v rfl (r_load (tag := 100010) rfl rfl rfl Try.isAgg22) <| g_v rfl r_move ?_
    replace hm := bnd hm
    obtain ⟨x123, hx123, hm⟩ := hm
    refine g_know _ (fun W hS => cl_at (p := (Sta.mk w0 M H R φ).ok) (sz := 3) (fun _ => rfl) (by decide) (ok_pre (H1 := [_]) (R1 := []) hS (fun W h => (q115 _ h))) fp0_1 hx123) ?_
    rintro ⟨ad124, hA126, f125⟩
    refine g_v rfl (r_ix Try.underlying22 Try.sizeOf36 rfl hA126 rfl hx123) ?_
    have f127 := fun (W : World) (h : (Sta.mk w0 M H R φ).ok W) => Cl.drop (f125 W h) 2
    refine g_v rfl (r_fieldF Try.underlying36 rfl Try.sizeOf9 rfl) <| g_v rfl (r_ld rfl Try.isAgg9 (fun W hS => Cl.head (f127 W (ok_pre (H1 := [_]) (R1 := []) hS (fun W h => (q115 _ h)))))) ?_
    replace hm := bnd hm
    obtain ⟨⟨x128, x129⟩, hx130, hm⟩ := hm
    refine g_cn ⟨w0, M, _, _, φ115⟩ (fun _ h => h) Try.call55 rfl rfl (c_ref11_List x123.fData _ hx130) (fun ⟨A131, c132⟩ hc132 => ?_)
    refine g_sta _ (fun W h => (ok_frontR (t := 2000) (t' := 100310) h rfl)) <| g_v rfl r_move <| g_v rfl (r_extract rfl rfl) <| g_v rfl (r_extract rfl rfl) <| g_v rfl r_assign <| g_nil <| d_normal_block <| d_then ?_
    refine c_flat [(1, .pointer (some ⟨g1, 0, none⟩)), (3, .slice A131 x128.length c132), (4, .int .i64 i89)] ⟨rfl, rfl, rfl, trivial⟩ (fun u => ?_)
    refine c_sta ⟨w0, M, (100010, g1, .cells #[.int .i64 p0.fTerm, .int .i64 p0.fVote, .slice Ap0_0 p0.fVoters.length cp0_0, .string p0.fSnap, .int .i64 p0.fLog.fBase, .int .i64 p0.fLog.fBaseTerm, .slice Ap0_1 p0.fLog.fEntries.length cp0_1] 40 (0, 0)) :: H, (100310, ⟨.slice A131 x128.length c132, 3, 1, x128.length, x128.flatMap (fun x : Int => [Value.int .i64 x])⟩) :: R, φ115⟩ (fun _ h => h) <| c_region <| g_v rfl r_move <| g_v rfl (r_add rfl rfl rfl) <| g_v rfl r_assign <| g_nil ?_
    refine d_shut (tag := 100310) rfl (fun φ135 q135' => ?_)
    have q135 : ∀ W, φ135 W → φ115 W := fun W h => (q135' W h).1
    have f136 := fun (W : World) (h : φ135 W) => (q135' W h).2
    obtain ⟨n137, hn137, hlp⟩ := nx_inl hm hnx2
    exact d_round (n137, x128, w64 (i89 + 1), A131, c132) ⟨hlp, hc132⟩ hn137 ⟨rfl, rfl, rfl, trivial⟩ (fun W h => h.phi (fun W hφ => ⟨(q115 _ (q135 _ hφ)), (fun W h => f136 W h) W hφ⟩))
   replace hm := ite_f hm (of_decide_eq_false h122)
   refine c_skip <| d_normal_block <| d_then <| c_region <| g_v rfl r_move <| g_v rfl (r_add rfl rfl rfl) <| g_v rfl r_assign <| g_nil ?_
   obtain ⟨n138, hn138, hlp⟩ := nx_inl hm hnx2
   exact d_round (n138, l85, w64 (i89 + 1), A86, c87) ⟨hlp, hc87⟩ hn138 ⟨rfl, rfl, rfl, trivial⟩ (fun W h => h.phi (fun W hφ => ⟨(q115 _ hφ), (fun W h => f88 W h) W hφ⟩))
  replace hm := ite_f hm (of_decide_eq_false h116)
  refine c_exit <| d_exit_then <| d_exit_then <| d_exit_block ?_
  replace hm := nx_out (C := (fun e : (List Int) => m_ref11_Now_j1 e = some r)) hm hnx2 hr2
  exact d_round (l85, A86, c87) ⟨hm, hc87⟩ Nat.zero_lt_one ⟨rfl, trivial⟩ (fun W h => (h.dropH (t := 100010) rfl).phi (fun W hφ => ⟨(q115 _ hφ), (fun W h => f88 W h) W hφ⟩))
 unfold m_ref11_Now_j1 at hm
 refine d_abs (fun φ60 q60' => ?_)
 have q60 : ∀ W, φ60 W → φ W := fun W h => (q60' W h).1
 have f59 := fun (W : World) (h : φ60 W) => (q60' W h).2
 refine d_flat [(3, .slice A57 l56.length c58)] ⟨rfl, trivial⟩ (fun u => ?_)
 refine d_sta ⟨w0, M, H, R, φ60⟩ (fun _ h => h) <| d_then <| c_seq <| c_region <| g_v rfl r_move <| g_v rfl r_assign <| g_nil <| d_then <| c_ret ?_
 cases hm
 exact d_retC (A57, c58) Try.results49 (res_tmp (res_nil rfl)) hc58 (fun W h => ok_pre (H1 := []) (R1 := []) h (fun W hφ => ⟨(q60 _ hφ), (fun W h => f59 W h) W hφ⟩)) (.inr rfl)
noncomputable def m_ref12_Voters (p0 : GRaft) : Option (List Int) :=
  (m_ref11_Now p0.fHard).bind fun x2 =>
  some x2
theorem c_ref12_Voters {w0 : World} {M : Nat → Prop} {H : List (Nat × Nat × Obj)} {R : List (Nat × Row)} {φ : World → Prop} (p0 : GRaft) (Ap0_0 : Option Addr) (cp0_0 : Nat) (hcp0_0 : p0.fHard.fVoters.length ≤ cp0_0) (fp0_0 : ∀ W, φ W → Cl W Ap0_0 (p0.fHard.fVoters.flatMap (fun x : Int => [Value.int .i64 x]))) (Ap0_1 : Option Addr) (cp0_1 : Nat) (hcp0_1 : p0.fHard.fLog.fEntries.length ≤ cp0_1) (fp0_1 : ∀ W, (Sta.mk w0 M H R φ).ok W → Cl W Ap0_1 (p0.fHard.fLog.fEntries.flatMap GEntry.enc)) (Ap0_2 : Option Addr) (cp0_2 : Nat) (hcp0_2 : p0.fVotes.length ≤ cp0_2) (fp0_2 : ∀ W, (Sta.mk w0 M H R φ).ok W → Cl W Ap0_2 (p0.fVotes.flatMap (fun x : Int => [Value.int .i64 x]))) (Ap0_3 : Option Addr) (cp0_3 : Nat) (hcp0_3 : p0.fMarks.length ≤ cp0_3) (fp0_3 : ∀ W, (Sta.mk w0 M H R φ).ok W → Cl W Ap0_3 (p0.fMarks.flatMap GMark.enc)) (r : (List Int)) (hm : m_ref12_Voters p0 = some r) :
    Cn Try.prog 26 #[.agg #[.int .i64 p0.fMe, .int .i64 p0.fRole, .int .i64 p0.fLeader, .int .i64 p0.fCommit, .int .i64 p0.fLeft, .int .i64 p0.fHard.fTerm, .int .i64 p0.fHard.fVote, .slice Ap0_0 p0.fHard.fVoters.length cp0_0, .string p0.fHard.fSnap, .int .i64 p0.fHard.fLog.fBase, .int .i64 p0.fHard.fLog.fBaseTerm, .slice Ap0_1 p0.fHard.fLog.fEntries.length cp0_1, .slice Ap0_2 p0.fVotes.length cp0_2, .slice Ap0_3 p0.fMarks.length cp0_3]] ⟨w0, M, H, R, φ⟩ (fun x : Option Addr × Nat => .slice x.1 r.length x.2) (fun x => r.length ≤ x.2) (fun x => ⟨w0, M, H, R, fun W => φ W ∧ Cl W x.1 (r.flatMap (fun x : Int => [Value.int .i64 x]))⟩) := by
 unfold m_ref12_Voters at hm
 refine cn_intro (fn := Try.f26) (N := 6) Try.func26 rfl Try.ntmps26 rfl <| c_seq <| c_region ?_
 refine g_e rfl (e_box 100010 rfl) (fun g1 _ => ?_)
 refine g_v rfl r_assign <| g_nil <| d_then <| c_seq <| c_region <| g_v rfl (r_field (n := 5) Try.underlying43 rfl Try.sizeOf40 rfl rfl) <| g_v rfl (r_loadA (tag := 100010) rfl rfl Try.isAgg40 Try.sizeOf40 rfl rfl) ?_
 replace hm := bnd hm
 obtain ⟨x2, hx3, hm⟩ := hm
 refine g_cn ⟨w0, M, _, _, φ⟩ (fun _ h => h) Try.call49 rfl rfl (c_ref11_Now p0.fHard Ap0_0 cp0_0 hcp0_0 (fun W h => fp0_0 W h) Ap0_1 cp0_1 hcp0_1 (fun W hS => fp0_1 W (ok_pre (H1 := [_]) (R1 := []) hS (fun W h => h))) _ hx3) (fun ⟨A4, c5⟩ hc5 => ?_)
 refine g_abs (fun φ7 q7' => ?_)
 have q7 : ∀ W, φ7 W → φ W := fun W h => (q7' W h).1
 have f6 := fun (W : World) (h : φ7 W) => (q7' W h).2
 refine g_v rfl r_assign <| g_nil <| d_then <| c_ret ?_
 cases hm
 exact d_retC (A4, c5) Try.results26 (res_tmp (res_nil rfl)) hc5 (fun W h => ok_pre (H1 := [_]) (R1 := []) h (fun W hφ => ⟨(q7 _ hφ), (fun W h => f6 W h) W hφ⟩)) (.inr rfl)
end Go.Proofs.Ytoglbdaagfoddaa
