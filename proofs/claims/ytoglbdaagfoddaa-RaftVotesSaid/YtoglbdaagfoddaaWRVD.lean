import Derived.Test.YtoglbdaagfoddaaWRVC
set_option maxRecDepth 100000
set_option maxHeartbeats 4000000
set_option linter.unusedVariables false
set_option linter.unusedSimpArgs false
namespace Go.Proofs.Ytoglbdaagfoddaa
open Go.RowKit Go.Proofs.YtoglbdaagfoddaaW.PrintLast
noncomputable def m_law12_awake  : Option Bool :=
  (m_raft_New 0 (⟨0, 0, [0], (⟨#[]⟩ : ByteArray), (⟨0, 0, ([] : List GEntry)⟩ : GLog)⟩ : GHard) 0).bind fun x4 =>
  (m_raft_Tick x4 5).bind fun (z40 : GRaft × (List GNote)) =>
  (m_raft_New 0 (⟨0, 0, [0, 1, 2], (⟨#[]⟩ : ByteArray), (⟨0, 0, ([] : List GEntry)⟩ : GLog)⟩ : GHard) 0).bind fun x45 =>
  (m_raft_Tick x45 7).bind fun (z81 : GRaft × (List GNote)) =>
  if (z81.2.length : Int) ≠ 2 then
    some false
  else
    (at_ z81.2 1).bind fun x84 =>
    if x84.fTo ≠ 2 then
      some false
    else
      (at_ z81.2 0).bind fun x96 =>
      if x96.fKind ≠ 1 then
        some false
      else
        (m_raft_Receive z81.1 (⟨2, 1, 0, 1, 0, 0, 0, true, ([] : List GEntry), ([] : List Int), (⟨#[]⟩ : ByteArray)⟩ : GNote) 5).bind fun (z129 : GRaft × (List GNote)) =>
        if z40.1.fRole = 2 then
          if z40.1.fHard.fTerm = 1 then
            if z40.1.fCommit = 1 then
              if z81.1.fLeft = 7 then
                if z81.1.fRole = 1 then
                  if z129.1.fRole = 2 then
                    if (z129.2.length : Int) = 2 then
                      (at_ z129.2 0).bind fun x138 =>
                      if x138.fKind = 3 then
                        (at_ z129.2 0).bind fun x150 =>
                        if (x150.fEntries.length : Int) = 1 then
                          (m_raft_Majority [1, 2, 3] [3, 1]).bind fun x164 =>
                          some x164
                        else
                          some false
                      else
                        some false
                    else
                      some false
                  else
                    some false
                else
                  some false
              else
                some false
            else
              some false
          else
            some false
        else
          some false
theorem c_law12_awake {w0 : World} {M : Nat → Prop} {H : List (Nat × Nat × Obj)} {R : List (Nat × Row)} {φ : World → Prop}  (r : Bool) (hm : m_law12_awake = some r) :
    Cn Try.prog 9 #[] ⟨w0, M, H, R, φ⟩ (fun x : Unit => .bool r) (fun x => True) (fun x => ⟨w0, M, H, R, φ⟩) := by
 unfold m_law12_awake at hm
 refine cn_intro (fn := Try.f9) (N := 98) Try.func9 rfl Try.ntmps9 rfl <| c_seq <| c_region <| g_v rfl r_assign <| g_nil <| d_then <| c_seq <| c_region ?_
 refine g_e rfl (e_lit (tag := 100080) (l := [0]) (enc := (fun x : Int => [Value.int .i64 x])) (sz := 1) rfl Try.underlying23 (lit3_0 _) rfl rfl (fun _ => rfl)) (fun g1 _ => ?_)
 refine g_v rfl (r_build _ rfl (bld40_1 _ _ _)) ?_
 refine g_shut (tag := 100080) rfl (fun φ2 q2' => ?_)
 have q2 : ∀ W, φ2 W → φ W := fun W h => (q2' W h).1
 have f3 := fun (W : World) (h : φ2 W) => (q2' W h).2
 replace hm := bnd hm
 obtain ⟨x4, hx5, hm⟩ := hm
 refine g_cn ⟨w0, M, _, _, φ2⟩ (fun _ h => h) Try.call16 rfl rfl (c_raft_New 0 (⟨0, 0, [0], (⟨#[]⟩ : ByteArray), (⟨0, 0, ([] : List GEntry)⟩ : GLog)⟩ : GHard) (some ⟨g1, 0, none⟩) 1 (Nat.le_refl _) (fun W h => f3 W h) none 0 (Nat.le_refl 0) (fun W _ => Cl.nil _ _) 0 _ hx5) (fun ⟨A6, c7, A9, c10, A12, c13, A15, c16⟩ ⟨hc7, hc10, hc13, hc16⟩ => ?_)
 refine g_abs (fun φ18 q18' => ?_)
 have q18 : ∀ W, φ18 W → φ2 W := fun W h => (q18' W h).1
 have f8 := fun (W : World) (h : φ18 W) => (q18' W h).2.1
 have f11 := fun (W : World) (h : φ18 W) => (q18' W h).2.2.1
 have f14 := fun (W : World) (h : φ18 W) => (q18' W h).2.2.2.1
 have f17 := fun (W : World) (h : φ18 W) => (q18' W h).2.2.2.2
 replace hm := bnd hm
 obtain ⟨⟨x19, x20⟩, hx21, hm⟩ := hm
 refine g_cn ⟨w0, M, _, _, φ18⟩ (fun _ h => h) Try.call18 rfl rfl (c_raft_Tick x4 A6 c7 hc7 (fun W h => f8 W h) A9 c10 hc10 (fun W h => f11 W h) A12 c13 hc13 (fun W h => f14 W h) A15 c16 hc16 (fun W h => f17 W h) 5 _ hx21) (fun ⟨A22, c23, A25, c26, A28, c29, A31, c32, A34, c35, ps37⟩ ⟨hc23, hc26, hc29, hc32, hc35⟩ => ?_)
 refine g_sta _ (fun W h => (ok_frontR (t := 2004) (t' := 100114) h rfl)) ?_
 refine g_abs (fun φ39 q39' => ?_)
 have q39 : ∀ W, φ39 W → φ18 W := fun W h => (q39' W h).1
 have f24 := fun (W : World) (h : φ39 W) => (q39' W h).2.1
 have f27 := fun (W : World) (h : φ39 W) => (q39' W h).2.2.1
 have f30 := fun (W : World) (h : φ39 W) => (q39' W h).2.2.2.1
 have f33 := fun (W : World) (h : φ39 W) => (q39' W h).2.2.2.2.1
 have f38 := fun (W : World) (h : φ39 W) => (q39' W h).2.2.2.2.2
 refine g_v rfl r_move <| g_v rfl (r_extract rfl rfl) <| g_v rfl (r_extract rfl rfl) ?_
 refine g_e rfl (e_alloc 100010 Try.zeroValue43) (fun g41 _ => ?_)
 refine g_storeL (tag := 100010) rfl rfl rfl rfl Try.sizeOf43 rfl rfl <| g_v rfl r_assign <| g_nil <| d_then ?_
 refine c_flat [(1, .pointer (some ⟨g41, 0, none⟩))] ⟨rfl, trivial⟩ (fun u => ?_)
 refine c_sta ⟨w0, M, (100010, g41, .cells #[.int .i64 x19.fMe, .int .i64 x19.fRole, .int .i64 x19.fLeader, .int .i64 x19.fCommit, .int .i64 x19.fLeft, .int .i64 x19.fHard.fTerm, .int .i64 x19.fHard.fVote, .slice A22 x19.fHard.fVoters.length c23, .string x19.fHard.fSnap, .int .i64 x19.fHard.fLog.fBase, .int .i64 x19.fHard.fLog.fBaseTerm, .slice A25 x19.fHard.fLog.fEntries.length c26, .slice A28 x19.fVotes.length c29, .slice A31 x19.fMarks.length c32] 43 (0, 0)) :: H, (100114, ⟨.slice A34 x20.length c35, 25, 11, x20.length, (x20.zip ps37).flatMap GNote.encP⟩) :: R, φ39⟩ (fun _ h => h) <| c_seq <| c_region ?_
 refine g_e rfl (e_lit (tag := 100150) (l := [0, 1, 2]) (enc := (fun x : Int => [Value.int .i64 x])) (sz := 1) rfl Try.underlying23 (lit3_17 _ _ _) rfl rfl (fun _ => rfl)) (fun g42 _ => ?_)
 refine g_v rfl (r_build _ rfl (bld40_1 _ _ _)) ?_
 refine g_shut (tag := 100150) rfl (fun φ43 q43' => ?_)
 have q43 : ∀ W, φ43 W → φ39 W := fun W h => (q43' W h).1
 have f44 := fun (W : World) (h : φ43 W) => (q43' W h).2
 replace hm := bnd hm
 obtain ⟨x45, hx46, hm⟩ := hm
 refine g_cn ⟨w0, M, _, _, φ43⟩ (fun _ h => h) Try.call16 rfl rfl (c_raft_New 0 (⟨0, 0, [0, 1, 2], (⟨#[]⟩ : ByteArray), (⟨0, 0, ([] : List GEntry)⟩ : GLog)⟩ : GHard) (some ⟨g42, 0, none⟩) 3 (Nat.le_refl _) (fun W h => f44 W h) none 0 (Nat.le_refl 0) (fun W _ => Cl.nil _ _) 0 _ hx46) (fun ⟨A47, c48, A50, c51, A53, c54, A56, c57⟩ ⟨hc48, hc51, hc54, hc57⟩ => ?_)
 refine g_abs (fun φ59 q59' => ?_)
 have q59 : ∀ W, φ59 W → φ43 W := fun W h => (q59' W h).1
 have f49 := fun (W : World) (h : φ59 W) => (q59' W h).2.1
 have f52 := fun (W : World) (h : φ59 W) => (q59' W h).2.2.1
 have f55 := fun (W : World) (h : φ59 W) => (q59' W h).2.2.2.1
 have f58 := fun (W : World) (h : φ59 W) => (q59' W h).2.2.2.2
 replace hm := bnd hm
 obtain ⟨⟨x60, x61⟩, hx62, hm⟩ := hm
 refine g_cn ⟨w0, M, _, _, φ59⟩ (fun _ h => h) Try.call18 rfl rfl (c_raft_Tick x45 A47 c48 hc48 (fun W h => f49 W h) A50 c51 hc51 (fun W h => f52 W h) A53 c54 hc54 (fun W h => f55 W h) A56 c57 hc57 (fun W h => f58 W h) 7 _ hx62) (fun ⟨A63, c64, A66, c67, A69, c70, A72, c73, A75, c76, ps78⟩ ⟨hc64, hc67, hc70, hc73, hc76⟩ => ?_)
 refine g_sta _ (fun W h => (ok_frontR (t := 2004) (t' := 100184) h rfl)) ?_
 refine g_abs (fun φ80 q80' => ?_)
 have q80 : ∀ W, φ80 W → φ59 W := fun W h => (q80' W h).1
 have f65 := fun (W : World) (h : φ80 W) => (q80' W h).2.1
 have f68 := fun (W : World) (h : φ80 W) => (q80' W h).2.2.1
 have f71 := fun (W : World) (h : φ80 W) => (q80' W h).2.2.2.1
 have f74 := fun (W : World) (h : φ80 W) => (q80' W h).2.2.2.2.1
 have f79 := fun (W : World) (h : φ80 W) => (q80' W h).2.2.2.2.2
 refine g_v rfl r_move <| g_v rfl (r_extract rfl rfl) <| g_v rfl (r_extract rfl rfl) ?_
 refine g_e rfl (e_alloc 100030 Try.zeroValue43) (fun g82 _ => ?_)
 refine g_storeL (tag := 100030) rfl rfl rfl rfl Try.sizeOf43 rfl rfl <| g_v rfl r_assign <| g_nil <| d_then ?_
 refine c_flat [(1, .pointer (some ⟨g41, 0, none⟩)), (3, .pointer (some ⟨g82, 0, none⟩)), (4, .slice A75 x61.length c76)] ⟨rfl, rfl, rfl, trivial⟩ (fun u => ?_)
 refine c_sta ⟨w0, M, (100030, g82, .cells #[.int .i64 x60.fMe, .int .i64 x60.fRole, .int .i64 x60.fLeader, .int .i64 x60.fCommit, .int .i64 x60.fLeft, .int .i64 x60.fHard.fTerm, .int .i64 x60.fHard.fVote, .slice A63 x60.fHard.fVoters.length c64, .string x60.fHard.fSnap, .int .i64 x60.fHard.fLog.fBase, .int .i64 x60.fHard.fLog.fBaseTerm, .slice A66 x60.fHard.fLog.fEntries.length c67, .slice A69 x60.fVotes.length c70, .slice A72 x60.fMarks.length c73] 43 (0, 0)) :: (100010, g41, .cells #[.int .i64 x19.fMe, .int .i64 x19.fRole, .int .i64 x19.fLeader, .int .i64 x19.fCommit, .int .i64 x19.fLeft, .int .i64 x19.fHard.fTerm, .int .i64 x19.fHard.fVote, .slice A22 x19.fHard.fVoters.length c23, .string x19.fHard.fSnap, .int .i64 x19.fHard.fLog.fBase, .int .i64 x19.fHard.fLog.fBaseTerm, .slice A25 x19.fHard.fLog.fEntries.length c26, .slice A28 x19.fVotes.length c29, .slice A31 x19.fMarks.length c32] 43 (0, 0)) :: H, (100184, ⟨.slice A75 x61.length c76, 25, 11, x61.length, (x61.zip ps78).flatMap GNote.encP⟩) :: (100114, ⟨.slice A34 x20.length c35, 25, 11, x20.length, (x20.zip ps37).flatMap GNote.encP⟩) :: R, φ80⟩ (fun _ h => h) <| c_seq <| c_seq <| c_region <| g_v rfl r_move <| g_v rfl (r_lenL Try.underlying48 rfl) <| g_v rfl (r_neq rfl rfl) <| g_v rfl r_move ?_
 refine g_if rfl rfl rfl rfl rfl (fun h83 => ?_) (fun h83 => ?_)
 ·
  replace hm := ite_f hm (of_decide_eq_false h83)
  refine g_v rfl r_move <| g_do rfl rfl rfl rfl rfl h83 ?_
  replace hm := bnd hm
  obtain ⟨x84, hx84, hm⟩ := hm
  obtain ⟨pp88, hv89, hz90, hcp91⟩ := DOk.at_ hc76.1 hx84
  refine g_know _ (fun W hS => cl_at (p := (Sta.ok ⟨w0, M, (100030, g82, .cells #[.int .i64 x60.fMe, .int .i64 x60.fRole, .int .i64 x60.fLeader, .int .i64 x60.fCommit, .int .i64 x60.fLeft, .int .i64 x60.fHard.fTerm, .int .i64 x60.fHard.fVote, .slice A63 x60.fHard.fVoters.length c64, .string x60.fHard.fSnap, .int .i64 x60.fHard.fLog.fBase, .int .i64 x60.fHard.fLog.fBaseTerm, .slice A66 x60.fHard.fLog.fEntries.length c67, .slice A69 x60.fVotes.length c70, .slice A72 x60.fMarks.length c73] 43 (0, 0)) :: (100010, g41, .cells #[.int .i64 x19.fMe, .int .i64 x19.fRole, .int .i64 x19.fLeader, .int .i64 x19.fCommit, .int .i64 x19.fLeft, .int .i64 x19.fHard.fTerm, .int .i64 x19.fHard.fVote, .slice A22 x19.fHard.fVoters.length c23, .string x19.fHard.fSnap, .int .i64 x19.fHard.fLog.fBase, .int .i64 x19.fHard.fLog.fBaseTerm, .slice A25 x19.fHard.fLog.fEntries.length c26, .slice A28 x19.fVotes.length c29, .slice A31 x19.fMarks.length c32] 43 (0, 0)) :: H, (100184, ⟨.slice A75 x61.length c76, 25, 11, x61.length, (x61.zip ps78).flatMap GNote.encP⟩) :: (100114, ⟨.slice A34 x20.length c35, 25, 11, x20.length, (x20.zip ps37).flatMap GNote.encP⟩) :: R, φ80⟩)) (sz := 11) (fun _ => rfl) (by decide) hS (fun W hS => rowCl (S := ⟨w0, M, (100030, g82, .cells #[.int .i64 x60.fMe, .int .i64 x60.fRole, .int .i64 x60.fLeader, .int .i64 x60.fCommit, .int .i64 x60.fLeft, .int .i64 x60.fHard.fTerm, .int .i64 x60.fHard.fVote, .slice A63 x60.fHard.fVoters.length c64, .string x60.fHard.fSnap, .int .i64 x60.fHard.fLog.fBase, .int .i64 x60.fHard.fLog.fBaseTerm, .slice A66 x60.fHard.fLog.fEntries.length c67, .slice A69 x60.fVotes.length c70, .slice A72 x60.fMarks.length c73] 43 (0, 0)) :: (100010, g41, .cells #[.int .i64 x19.fMe, .int .i64 x19.fRole, .int .i64 x19.fLeader, .int .i64 x19.fCommit, .int .i64 x19.fLeft, .int .i64 x19.fHard.fTerm, .int .i64 x19.fHard.fVote, .slice A22 x19.fHard.fVoters.length c23, .string x19.fHard.fSnap, .int .i64 x19.fHard.fLog.fBase, .int .i64 x19.fHard.fLog.fBaseTerm, .slice A25 x19.fHard.fLog.fEntries.length c26, .slice A28 x19.fVotes.length c29, .slice A31 x19.fMarks.length c32] 43 (0, 0)) :: H, (100184, ⟨.slice A75 x61.length c76, 25, 11, x61.length, (x61.zip ps78).flatMap GNote.encP⟩) :: (100114, ⟨.slice A34 x20.length c35, 25, 11, x20.length, (x20.zip ps37).flatMap GNote.encP⟩) :: R, φ80⟩) (tag := 100184) rfl W hS) hv89) ?_
  rintro ⟨ad85, hA87, f86⟩
  have f92 := fun (W : World) (h : φ80 W) => (f79 W h _ hz90).1
  have f93 := fun (W : World) (h : φ80 W) => (f79 W h _ hz90).2
  refine g_v rfl (r_ix Try.underlying48 Try.sizeOf25 rfl hA87 rfl hx84) <| g_do rfl rfl rfl rfl rfl h83 ?_
  have f94 := fun (W : World) (h : (Sta.ok ⟨w0, M, (100030, g82, .cells #[.int .i64 x60.fMe, .int .i64 x60.fRole, .int .i64 x60.fLeader, .int .i64 x60.fCommit, .int .i64 x60.fLeft, .int .i64 x60.fHard.fTerm, .int .i64 x60.fHard.fVote, .slice A63 x60.fHard.fVoters.length c64, .string x60.fHard.fSnap, .int .i64 x60.fHard.fLog.fBase, .int .i64 x60.fHard.fLog.fBaseTerm, .slice A66 x60.fHard.fLog.fEntries.length c67, .slice A69 x60.fVotes.length c70, .slice A72 x60.fMarks.length c73] 43 (0, 0)) :: (100010, g41, .cells #[.int .i64 x19.fMe, .int .i64 x19.fRole, .int .i64 x19.fLeader, .int .i64 x19.fCommit, .int .i64 x19.fLeft, .int .i64 x19.fHard.fTerm, .int .i64 x19.fHard.fVote, .slice A22 x19.fHard.fVoters.length c23, .string x19.fHard.fSnap, .int .i64 x19.fHard.fLog.fBase, .int .i64 x19.fHard.fLog.fBaseTerm, .slice A25 x19.fHard.fLog.fEntries.length c26, .slice A28 x19.fVotes.length c29, .slice A31 x19.fMarks.length c32] 43 (0, 0)) :: H, (100184, ⟨.slice A75 x61.length c76, 25, 11, x61.length, (x61.zip ps78).flatMap GNote.encP⟩) :: (100114, ⟨.slice A34 x20.length c35, 25, 11, x20.length, (x20.zip ps37).flatMap GNote.encP⟩) :: R, φ80⟩) W) => Cl.drop (f86 W h) 2
  refine g_v rfl (r_fieldF Try.underlying25 rfl Try.sizeOf3 rfl) <| g_do rfl rfl rfl rfl rfl h83 <| g_v rfl (r_ld rfl Try.isAgg3 (fun W hS => Cl.head (f94 W hS))) <| g_do rfl rfl rfl rfl rfl h83 <| g_v rfl (r_neq rfl rfl) <| g_v rfl (r_pick0 rfl h83) <| g_v rfl r_move ?_
  refine g_if rfl rfl rfl rfl rfl (fun h95 => ?_) (fun h95 => ?_)
  ·
   replace hm := ite_f hm (of_decide_eq_false h95)
   refine g_v rfl r_move <| g_do rfl rfl rfl rfl rfl h95 ?_
   replace hm := bnd hm
   obtain ⟨x96, hx96, hm⟩ := hm
   obtain ⟨pp100, hv101, hz102, hcp103⟩ := DOk.at_ hc76.1 hx96
   refine g_know _ (fun W hS => cl_at (p := (Sta.ok ⟨w0, M, (100030, g82, .cells #[.int .i64 x60.fMe, .int .i64 x60.fRole, .int .i64 x60.fLeader, .int .i64 x60.fCommit, .int .i64 x60.fLeft, .int .i64 x60.fHard.fTerm, .int .i64 x60.fHard.fVote, .slice A63 x60.fHard.fVoters.length c64, .string x60.fHard.fSnap, .int .i64 x60.fHard.fLog.fBase, .int .i64 x60.fHard.fLog.fBaseTerm, .slice A66 x60.fHard.fLog.fEntries.length c67, .slice A69 x60.fVotes.length c70, .slice A72 x60.fMarks.length c73] 43 (0, 0)) :: (100010, g41, .cells #[.int .i64 x19.fMe, .int .i64 x19.fRole, .int .i64 x19.fLeader, .int .i64 x19.fCommit, .int .i64 x19.fLeft, .int .i64 x19.fHard.fTerm, .int .i64 x19.fHard.fVote, .slice A22 x19.fHard.fVoters.length c23, .string x19.fHard.fSnap, .int .i64 x19.fHard.fLog.fBase, .int .i64 x19.fHard.fLog.fBaseTerm, .slice A25 x19.fHard.fLog.fEntries.length c26, .slice A28 x19.fVotes.length c29, .slice A31 x19.fMarks.length c32] 43 (0, 0)) :: H, (100184, ⟨.slice A75 x61.length c76, 25, 11, x61.length, (x61.zip ps78).flatMap GNote.encP⟩) :: (100114, ⟨.slice A34 x20.length c35, 25, 11, x20.length, (x20.zip ps37).flatMap GNote.encP⟩) :: R, φ80⟩)) (sz := 11) (fun _ => rfl) (by decide) hS (fun W hS => rowCl (S := ⟨w0, M, (100030, g82, .cells #[.int .i64 x60.fMe, .int .i64 x60.fRole, .int .i64 x60.fLeader, .int .i64 x60.fCommit, .int .i64 x60.fLeft, .int .i64 x60.fHard.fTerm, .int .i64 x60.fHard.fVote, .slice A63 x60.fHard.fVoters.length c64, .string x60.fHard.fSnap, .int .i64 x60.fHard.fLog.fBase, .int .i64 x60.fHard.fLog.fBaseTerm, .slice A66 x60.fHard.fLog.fEntries.length c67, .slice A69 x60.fVotes.length c70, .slice A72 x60.fMarks.length c73] 43 (0, 0)) :: (100010, g41, .cells #[.int .i64 x19.fMe, .int .i64 x19.fRole, .int .i64 x19.fLeader, .int .i64 x19.fCommit, .int .i64 x19.fLeft, .int .i64 x19.fHard.fTerm, .int .i64 x19.fHard.fVote, .slice A22 x19.fHard.fVoters.length c23, .string x19.fHard.fSnap, .int .i64 x19.fHard.fLog.fBase, .int .i64 x19.fHard.fLog.fBaseTerm, .slice A25 x19.fHard.fLog.fEntries.length c26, .slice A28 x19.fVotes.length c29, .slice A31 x19.fMarks.length c32] 43 (0, 0)) :: H, (100184, ⟨.slice A75 x61.length c76, 25, 11, x61.length, (x61.zip ps78).flatMap GNote.encP⟩) :: (100114, ⟨.slice A34 x20.length c35, 25, 11, x20.length, (x20.zip ps37).flatMap GNote.encP⟩) :: R, φ80⟩) (tag := 100184) rfl W hS) hv101) ?_
   rintro ⟨ad97, hA99, f98⟩
   have f104 := fun (W : World) (h : φ80 W) => (f79 W h _ hz102).1
   have f105 := fun (W : World) (h : φ80 W) => (f79 W h _ hz102).2
   refine g_v rfl (r_ix Try.underlying48 Try.sizeOf25 rfl hA99 rfl hx96) <| g_do rfl rfl rfl rfl rfl h95 ?_
   have f106 := fun (W : World) (h : (Sta.ok ⟨w0, M, (100030, g82, .cells #[.int .i64 x60.fMe, .int .i64 x60.fRole, .int .i64 x60.fLeader, .int .i64 x60.fCommit, .int .i64 x60.fLeft, .int .i64 x60.fHard.fTerm, .int .i64 x60.fHard.fVote, .slice A63 x60.fHard.fVoters.length c64, .string x60.fHard.fSnap, .int .i64 x60.fHard.fLog.fBase, .int .i64 x60.fHard.fLog.fBaseTerm, .slice A66 x60.fHard.fLog.fEntries.length c67, .slice A69 x60.fVotes.length c70, .slice A72 x60.fMarks.length c73] 43 (0, 0)) :: (100010, g41, .cells #[.int .i64 x19.fMe, .int .i64 x19.fRole, .int .i64 x19.fLeader, .int .i64 x19.fCommit, .int .i64 x19.fLeft, .int .i64 x19.fHard.fTerm, .int .i64 x19.fHard.fVote, .slice A22 x19.fHard.fVoters.length c23, .string x19.fHard.fSnap, .int .i64 x19.fHard.fLog.fBase, .int .i64 x19.fHard.fLog.fBaseTerm, .slice A25 x19.fHard.fLog.fEntries.length c26, .slice A28 x19.fVotes.length c29, .slice A31 x19.fMarks.length c32] 43 (0, 0)) :: H, (100184, ⟨.slice A75 x61.length c76, 25, 11, x61.length, (x61.zip ps78).flatMap GNote.encP⟩) :: (100114, ⟨.slice A34 x20.length c35, 25, 11, x20.length, (x20.zip ps37).flatMap GNote.encP⟩) :: R, φ80⟩) W) => Cl.drop (f98 W h) 0
   refine g_v rfl (r_fieldF Try.underlying25 rfl Try.sizeOf3 rfl) <| g_do rfl rfl rfl rfl rfl h95 <| g_v rfl (r_ld rfl Try.isAgg3 (fun W hS => Cl.head (f106 W hS))) <| g_do rfl rfl rfl rfl rfl h95 <| g_v rfl (r_neq rfl rfl) <| g_v rfl (r_pick0 rfl h95) <| g_nil <| d_then ?_
   refine c_flat [(1, .pointer (some ⟨g41, 0, none⟩)), (3, .pointer (some ⟨g82, 0, none⟩)), (37, .bool (decide (x96.fKind ≠ 1)))] ⟨rfl, rfl, rfl, trivial⟩ (fun u => ?_)
   refine c_cond rfl (fun h107 => ?_) (fun h107 => ?_)
   ·
    replace hm := ite_t hm (of_decide_eq_true h107)
    refine c_seq <| c_region <| g_v rfl r_assign <| g_nil <| d_then <| c_ret <| d_ret_then ?_
    cases hm
    exact d_retC () Try.results9 (res_tmp (res_nil rfl)) trivial (fun W h => ok_pre (H1 := [_, _]) (R1 := [_, _]) h (fun W hφ => (q2 _ (q18 _ (q39 _ (q43 _ (q59 _ (q80 _ hφ)))))))) (.inr rfl)
   replace hm := ite_f hm (of_decide_eq_false h107)
   refine c_skip <| d_then <| c_seq <| c_region <| g_v rfl (r_loadA (tag := 100030) rfl rfl Try.isAgg43 Try.sizeOf43 rfl rfl) <| g_v rfl (r_build _ rfl (bld25_18 _ _ _ _ _)) ?_
   replace hm := bnd hm
   obtain ⟨⟨x108, x109⟩, hx110, hm⟩ := hm
   refine g_cn ⟨w0, M, _, _, φ80⟩ (fun _ h => h) Try.call17 rfl rfl (c_raft_Receive x60 A63 c64 hc64 (fun W h => f65 W h) A66 c67 hc67 (fun W h => f68 W h) A69 c70 hc70 (fun W h => f71 W h) A72 c73 hc73 (fun W h => f74 W h) (⟨2, 1, 0, 1, 0, 0, 0, true, ([] : List GEntry), ([] : List Int), (⟨#[]⟩ : ByteArray)⟩ : GNote) none 0 (Nat.le_refl 0) (fun W _ => Cl.nil _ _) none 0 (Nat.le_refl 0) (fun W _ => Cl.nil _ _) 5 _ hx110) (fun ⟨A111, c112, A114, c115, A117, c118, A120, c121, A123, c124, ps126⟩ ⟨hc112, hc115, hc118, hc121, hc124⟩ => ?_)
   refine g_sta _ (fun W h => (ok_frontR (t := 2004) (t' := 100414) h rfl)) ?_
   refine g_abs (fun φ128 q128' => ?_)
   have q128 : ∀ W, φ128 W → φ80 W := fun W h => (q128' W h).1
   have f113 := fun (W : World) (h : φ128 W) => (q128' W h).2.1
   have f116 := fun (W : World) (h : φ128 W) => (q128' W h).2.2.1
   have f119 := fun (W : World) (h : φ128 W) => (q128' W h).2.2.2.1
   have f122 := fun (W : World) (h : φ128 W) => (q128' W h).2.2.2.2.1
   have f127 := fun (W : World) (h : φ128 W) => (q128' W h).2.2.2.2.2
   refine g_v rfl r_move <| g_v rfl (r_extract rfl rfl) <| g_v rfl (r_extract rfl rfl) ?_
   refine g_e rfl (e_alloc 100050 Try.zeroValue43) (fun g130 _ => ?_)
   refine g_storeL (tag := 100050) rfl rfl rfl rfl Try.sizeOf43 rfl rfl <| g_v rfl r_assign <| g_nil <| d_then ?_
   refine c_flat [(1, .pointer (some ⟨g41, 0, none⟩)), (3, .pointer (some ⟨g82, 0, none⟩)), (5, .pointer (some ⟨g130, 0, none⟩)), (6, .slice A123 x109.length c124)] ⟨rfl, rfl, rfl, rfl, trivial⟩ (fun u => ?_)
   refine c_sta ⟨w0, M, (100050, g130, .cells #[.int .i64 x108.fMe, .int .i64 x108.fRole, .int .i64 x108.fLeader, .int .i64 x108.fCommit, .int .i64 x108.fLeft, .int .i64 x108.fHard.fTerm, .int .i64 x108.fHard.fVote, .slice A111 x108.fHard.fVoters.length c112, .string x108.fHard.fSnap, .int .i64 x108.fHard.fLog.fBase, .int .i64 x108.fHard.fLog.fBaseTerm, .slice A114 x108.fHard.fLog.fEntries.length c115, .slice A117 x108.fVotes.length c118, .slice A120 x108.fMarks.length c121] 43 (0, 0)) :: (100030, g82, .cells #[.int .i64 x60.fMe, .int .i64 x60.fRole, .int .i64 x60.fLeader, .int .i64 x60.fCommit, .int .i64 x60.fLeft, .int .i64 x60.fHard.fTerm, .int .i64 x60.fHard.fVote, .slice A63 x60.fHard.fVoters.length c64, .string x60.fHard.fSnap, .int .i64 x60.fHard.fLog.fBase, .int .i64 x60.fHard.fLog.fBaseTerm, .slice A66 x60.fHard.fLog.fEntries.length c67, .slice A69 x60.fVotes.length c70, .slice A72 x60.fMarks.length c73] 43 (0, 0)) :: (100010, g41, .cells #[.int .i64 x19.fMe, .int .i64 x19.fRole, .int .i64 x19.fLeader, .int .i64 x19.fCommit, .int .i64 x19.fLeft, .int .i64 x19.fHard.fTerm, .int .i64 x19.fHard.fVote, .slice A22 x19.fHard.fVoters.length c23, .string x19.fHard.fSnap, .int .i64 x19.fHard.fLog.fBase, .int .i64 x19.fHard.fLog.fBaseTerm, .slice A25 x19.fHard.fLog.fEntries.length c26, .slice A28 x19.fVotes.length c29, .slice A31 x19.fMarks.length c32] 43 (0, 0)) :: H, (100414, ⟨.slice A123 x109.length c124, 25, 11, x109.length, (x109.zip ps126).flatMap GNote.encP⟩) :: (100184, ⟨.slice A75 x61.length c76, 25, 11, x61.length, (x61.zip ps78).flatMap GNote.encP⟩) :: (100114, ⟨.slice A34 x20.length c35, 25, 11, x20.length, (x20.zip ps37).flatMap GNote.encP⟩) :: R, φ128⟩ (fun _ h => h) <| c_seq <| c_region <| g_v rfl (r_field (n := 1) Try.underlying43 rfl Try.sizeOf3 rfl rfl) <| g_v rfl (r_load (tag := 100010) rfl rfl rfl Try.isAgg3) <| g_v rfl (r_eql rfl rfl) <| g_v rfl r_move ?_
   refine g_if rfl rfl rfl rfl rfl (fun h131 => ?_) (fun h131 => ?_)
   ·
    replace hm := ite_t hm (of_decide_eq_true h131)
    refine g_v rfl (r_field (n := 5) Try.underlying43 rfl Try.sizeOf40 rfl rfl) <| g_do rfl rfl rfl rfl rfl h131 <| g_v rfl (r_field (n := 5) Try.underlying40 rfl Try.sizeOf3 rfl rfl) <| g_do rfl rfl rfl rfl rfl h131 <| g_v rfl (r_load (tag := 100010) rfl rfl rfl Try.isAgg3) <| g_do rfl rfl rfl rfl rfl h131 <| g_v rfl (r_eql rfl rfl) <| g_v rfl (r_pick1 rfl h131) <| g_v rfl r_move ?_
    refine g_if rfl rfl rfl rfl rfl (fun h132 => ?_) (fun h132 => ?_)
    ·
     replace hm := ite_t hm (of_decide_eq_true h132)
     refine g_v rfl (r_field (n := 3) Try.underlying43 rfl Try.sizeOf3 rfl rfl) <| g_do rfl rfl rfl rfl rfl h132 <| g_v rfl (r_load (tag := 100010) rfl rfl rfl Try.isAgg3) <| g_do rfl rfl rfl rfl rfl h132 <| g_v rfl (r_eql rfl rfl) <| g_v rfl (r_pick1 rfl h132) <| g_v rfl r_move ?_
     refine g_if rfl rfl rfl rfl rfl (fun h133 => ?_) (fun h133 => ?_)
     ·
      replace hm := ite_t hm (of_decide_eq_true h133)
      refine g_v rfl (r_field (n := 4) Try.underlying43 rfl Try.sizeOf3 rfl rfl) <| g_do rfl rfl rfl rfl rfl h133 <| g_v rfl (r_load (tag := 100030) rfl rfl rfl Try.isAgg3) <| g_do rfl rfl rfl rfl rfl h133 <| g_v rfl (r_eql rfl rfl) <| g_v rfl (r_pick1 rfl h133) <| g_v rfl r_move ?_
      refine g_if rfl rfl rfl rfl rfl (fun h134 => ?_) (fun h134 => ?_)
      ·
       replace hm := ite_t hm (of_decide_eq_true h134)
       refine g_v rfl (r_field (n := 1) Try.underlying43 rfl Try.sizeOf3 rfl rfl) <| g_do rfl rfl rfl rfl rfl h134 <| g_v rfl (r_load (tag := 100030) rfl rfl rfl Try.isAgg3) <| g_do rfl rfl rfl rfl rfl h134 <| g_v rfl (r_eql rfl rfl) <| g_v rfl (r_pick1 rfl h134) <| g_v rfl r_move ?_
       refine g_if rfl rfl rfl rfl rfl (fun h135 => ?_) (fun h135 => ?_)
       ·
        replace hm := ite_t hm (of_decide_eq_true h135)
        refine g_v rfl (r_field (n := 1) Try.underlying43 rfl Try.sizeOf3 rfl rfl) <| g_do rfl rfl rfl rfl rfl h135 <| g_v rfl (r_load (tag := 100050) rfl rfl rfl Try.isAgg3) <| g_do rfl rfl rfl rfl rfl h135 <| g_v rfl (r_eql rfl rfl) <| g_v rfl (r_pick1 rfl h135) <| g_v rfl r_move ?_
        refine g_if rfl rfl rfl rfl rfl (fun h136 => ?_) (fun h136 => ?_)
        ·
         replace hm := ite_t hm (of_decide_eq_true h136)
         refine g_v rfl r_move <| g_do rfl rfl rfl rfl rfl h136 <| g_v rfl (r_lenL Try.underlying48 rfl) <| g_do rfl rfl rfl rfl rfl h136 <| g_v rfl (r_eql rfl rfl) <| g_v rfl (r_pick1 rfl h136) <| g_v rfl r_move ?_
         refine g_if rfl rfl rfl rfl rfl (fun h137 => ?_) (fun h137 => ?_)
         ·
          replace hm := ite_t hm (of_decide_eq_true h137)
          refine g_v rfl r_move <| g_do rfl rfl rfl rfl rfl h137 ?_
          replace hm := bnd hm
          obtain ⟨x138, hx138, hm⟩ := hm
          obtain ⟨pp142, hv143, hz144, hcp145⟩ := DOk.at_ hc124.1 hx138
          refine g_know _ (fun W hS => cl_at (p := (Sta.ok ⟨w0, M, (100050, g130, .cells #[.int .i64 x108.fMe, .int .i64 x108.fRole, .int .i64 x108.fLeader, .int .i64 x108.fCommit, .int .i64 x108.fLeft, .int .i64 x108.fHard.fTerm, .int .i64 x108.fHard.fVote, .slice A111 x108.fHard.fVoters.length c112, .string x108.fHard.fSnap, .int .i64 x108.fHard.fLog.fBase, .int .i64 x108.fHard.fLog.fBaseTerm, .slice A114 x108.fHard.fLog.fEntries.length c115, .slice A117 x108.fVotes.length c118, .slice A120 x108.fMarks.length c121] 43 (0, 0)) :: (100030, g82, .cells #[.int .i64 x60.fMe, .int .i64 x60.fRole, .int .i64 x60.fLeader, .int .i64 x60.fCommit, .int .i64 x60.fLeft, .int .i64 x60.fHard.fTerm, .int .i64 x60.fHard.fVote, .slice A63 x60.fHard.fVoters.length c64, .string x60.fHard.fSnap, .int .i64 x60.fHard.fLog.fBase, .int .i64 x60.fHard.fLog.fBaseTerm, .slice A66 x60.fHard.fLog.fEntries.length c67, .slice A69 x60.fVotes.length c70, .slice A72 x60.fMarks.length c73] 43 (0, 0)) :: (100010, g41, .cells #[.int .i64 x19.fMe, .int .i64 x19.fRole, .int .i64 x19.fLeader, .int .i64 x19.fCommit, .int .i64 x19.fLeft, .int .i64 x19.fHard.fTerm, .int .i64 x19.fHard.fVote, .slice A22 x19.fHard.fVoters.length c23, .string x19.fHard.fSnap, .int .i64 x19.fHard.fLog.fBase, .int .i64 x19.fHard.fLog.fBaseTerm, .slice A25 x19.fHard.fLog.fEntries.length c26, .slice A28 x19.fVotes.length c29, .slice A31 x19.fMarks.length c32] 43 (0, 0)) :: H, (100414, ⟨.slice A123 x109.length c124, 25, 11, x109.length, (x109.zip ps126).flatMap GNote.encP⟩) :: (100184, ⟨.slice A75 x61.length c76, 25, 11, x61.length, (x61.zip ps78).flatMap GNote.encP⟩) :: (100114, ⟨.slice A34 x20.length c35, 25, 11, x20.length, (x20.zip ps37).flatMap GNote.encP⟩) :: R, φ128⟩)) (sz := 11) (fun _ => rfl) (by decide) hS (fun W hS => rowCl (S := ⟨w0, M, (100050, g130, .cells #[.int .i64 x108.fMe, .int .i64 x108.fRole, .int .i64 x108.fLeader, .int .i64 x108.fCommit, .int .i64 x108.fLeft, .int .i64 x108.fHard.fTerm, .int .i64 x108.fHard.fVote, .slice A111 x108.fHard.fVoters.length c112, .string x108.fHard.fSnap, .int .i64 x108.fHard.fLog.fBase, .int .i64 x108.fHard.fLog.fBaseTerm, .slice A114 x108.fHard.fLog.fEntries.length c115, .slice A117 x108.fVotes.length c118, .slice A120 x108.fMarks.length c121] 43 (0, 0)) :: (100030, g82, .cells #[.int .i64 x60.fMe, .int .i64 x60.fRole, .int .i64 x60.fLeader, .int .i64 x60.fCommit, .int .i64 x60.fLeft, .int .i64 x60.fHard.fTerm, .int .i64 x60.fHard.fVote, .slice A63 x60.fHard.fVoters.length c64, .string x60.fHard.fSnap, .int .i64 x60.fHard.fLog.fBase, .int .i64 x60.fHard.fLog.fBaseTerm, .slice A66 x60.fHard.fLog.fEntries.length c67, .slice A69 x60.fVotes.length c70, .slice A72 x60.fMarks.length c73] 43 (0, 0)) :: (100010, g41, .cells #[.int .i64 x19.fMe, .int .i64 x19.fRole, .int .i64 x19.fLeader, .int .i64 x19.fCommit, .int .i64 x19.fLeft, .int .i64 x19.fHard.fTerm, .int .i64 x19.fHard.fVote, .slice A22 x19.fHard.fVoters.length c23, .string x19.fHard.fSnap, .int .i64 x19.fHard.fLog.fBase, .int .i64 x19.fHard.fLog.fBaseTerm, .slice A25 x19.fHard.fLog.fEntries.length c26, .slice A28 x19.fVotes.length c29, .slice A31 x19.fMarks.length c32] 43 (0, 0)) :: H, (100414, ⟨.slice A123 x109.length c124, 25, 11, x109.length, (x109.zip ps126).flatMap GNote.encP⟩) :: (100184, ⟨.slice A75 x61.length c76, 25, 11, x61.length, (x61.zip ps78).flatMap GNote.encP⟩) :: (100114, ⟨.slice A34 x20.length c35, 25, 11, x20.length, (x20.zip ps37).flatMap GNote.encP⟩) :: R, φ128⟩) (tag := 100414) rfl W hS) hv143) ?_
          rintro ⟨ad139, hA141, f140⟩
          have f146 := fun (W : World) (h : φ128 W) => (f127 W h _ hz144).1
          have f147 := fun (W : World) (h : φ128 W) => (f127 W h _ hz144).2
          refine g_v rfl (r_ix Try.underlying48 Try.sizeOf25 rfl hA141 rfl hx138) <| g_do rfl rfl rfl rfl rfl h137 ?_
          have f148 := fun (W : World) (h : (Sta.ok ⟨w0, M, (100050, g130, .cells #[.int .i64 x108.fMe, .int .i64 x108.fRole, .int .i64 x108.fLeader, .int .i64 x108.fCommit, .int .i64 x108.fLeft, .int .i64 x108.fHard.fTerm, .int .i64 x108.fHard.fVote, .slice A111 x108.fHard.fVoters.length c112, .string x108.fHard.fSnap, .int .i64 x108.fHard.fLog.fBase, .int .i64 x108.fHard.fLog.fBaseTerm, .slice A114 x108.fHard.fLog.fEntries.length c115, .slice A117 x108.fVotes.length c118, .slice A120 x108.fMarks.length c121] 43 (0, 0)) :: (100030, g82, .cells #[.int .i64 x60.fMe, .int .i64 x60.fRole, .int .i64 x60.fLeader, .int .i64 x60.fCommit, .int .i64 x60.fLeft, .int .i64 x60.fHard.fTerm, .int .i64 x60.fHard.fVote, .slice A63 x60.fHard.fVoters.length c64, .string x60.fHard.fSnap, .int .i64 x60.fHard.fLog.fBase, .int .i64 x60.fHard.fLog.fBaseTerm, .slice A66 x60.fHard.fLog.fEntries.length c67, .slice A69 x60.fVotes.length c70, .slice A72 x60.fMarks.length c73] 43 (0, 0)) :: (100010, g41, .cells #[.int .i64 x19.fMe, .int .i64 x19.fRole, .int .i64 x19.fLeader, .int .i64 x19.fCommit, .int .i64 x19.fLeft, .int .i64 x19.fHard.fTerm, .int .i64 x19.fHard.fVote, .slice A22 x19.fHard.fVoters.length c23, .string x19.fHard.fSnap, .int .i64 x19.fHard.fLog.fBase, .int .i64 x19.fHard.fLog.fBaseTerm, .slice A25 x19.fHard.fLog.fEntries.length c26, .slice A28 x19.fVotes.length c29, .slice A31 x19.fMarks.length c32] 43 (0, 0)) :: H, (100414, ⟨.slice A123 x109.length c124, 25, 11, x109.length, (x109.zip ps126).flatMap GNote.encP⟩) :: (100184, ⟨.slice A75 x61.length c76, 25, 11, x61.length, (x61.zip ps78).flatMap GNote.encP⟩) :: (100114, ⟨.slice A34 x20.length c35, 25, 11, x20.length, (x20.zip ps37).flatMap GNote.encP⟩) :: R, φ128⟩) W) => Cl.drop (f140 W h) 0
          refine g_v rfl (r_fieldF Try.underlying25 rfl Try.sizeOf3 rfl) <| g_do rfl rfl rfl rfl rfl h137 <| g_v rfl (r_ld rfl Try.isAgg3 (fun W hS => Cl.head (f148 W hS))) <| g_do rfl rfl rfl rfl rfl h137 <| g_v rfl (r_eql rfl rfl) <| g_v rfl (r_pick1 rfl h137) <| g_v rfl r_move ?_
          refine g_if rfl rfl rfl rfl rfl (fun h149 => ?_) (fun h149 => ?_)
          ·
           replace hm := ite_t hm (of_decide_eq_true h149)
           refine g_v rfl r_move <| g_do rfl rfl rfl rfl rfl h149 ?_
           replace hm := bnd hm
           obtain ⟨x150, hx150, hm⟩ := hm
           obtain ⟨pp154, hv155, hz156, hcp157⟩ := DOk.at_ hc124.1 hx150
           refine g_know _ (fun W hS => cl_at (p := (Sta.ok ⟨w0, M, (100050, g130, .cells #[.int .i64 x108.fMe, .int .i64 x108.fRole, .int .i64 x108.fLeader, .int .i64 x108.fCommit, .int .i64 x108.fLeft, .int .i64 x108.fHard.fTerm, .int .i64 x108.fHard.fVote, .slice A111 x108.fHard.fVoters.length c112, .string x108.fHard.fSnap, .int .i64 x108.fHard.fLog.fBase, .int .i64 x108.fHard.fLog.fBaseTerm, .slice A114 x108.fHard.fLog.fEntries.length c115, .slice A117 x108.fVotes.length c118, .slice A120 x108.fMarks.length c121] 43 (0, 0)) :: (100030, g82, .cells #[.int .i64 x60.fMe, .int .i64 x60.fRole, .int .i64 x60.fLeader, .int .i64 x60.fCommit, .int .i64 x60.fLeft, .int .i64 x60.fHard.fTerm, .int .i64 x60.fHard.fVote, .slice A63 x60.fHard.fVoters.length c64, .string x60.fHard.fSnap, .int .i64 x60.fHard.fLog.fBase, .int .i64 x60.fHard.fLog.fBaseTerm, .slice A66 x60.fHard.fLog.fEntries.length c67, .slice A69 x60.fVotes.length c70, .slice A72 x60.fMarks.length c73] 43 (0, 0)) :: (100010, g41, .cells #[.int .i64 x19.fMe, .int .i64 x19.fRole, .int .i64 x19.fLeader, .int .i64 x19.fCommit, .int .i64 x19.fLeft, .int .i64 x19.fHard.fTerm, .int .i64 x19.fHard.fVote, .slice A22 x19.fHard.fVoters.length c23, .string x19.fHard.fSnap, .int .i64 x19.fHard.fLog.fBase, .int .i64 x19.fHard.fLog.fBaseTerm, .slice A25 x19.fHard.fLog.fEntries.length c26, .slice A28 x19.fVotes.length c29, .slice A31 x19.fMarks.length c32] 43 (0, 0)) :: H, (100414, ⟨.slice A123 x109.length c124, 25, 11, x109.length, (x109.zip ps126).flatMap GNote.encP⟩) :: (100184, ⟨.slice A75 x61.length c76, 25, 11, x61.length, (x61.zip ps78).flatMap GNote.encP⟩) :: (100114, ⟨.slice A34 x20.length c35, 25, 11, x20.length, (x20.zip ps37).flatMap GNote.encP⟩) :: R, φ128⟩)) (sz := 11) (fun _ => rfl) (by decide) hS (fun W hS => rowCl (S := ⟨w0, M, (100050, g130, .cells #[.int .i64 x108.fMe, .int .i64 x108.fRole, .int .i64 x108.fLeader, .int .i64 x108.fCommit, .int .i64 x108.fLeft, .int .i64 x108.fHard.fTerm, .int .i64 x108.fHard.fVote, .slice A111 x108.fHard.fVoters.length c112, .string x108.fHard.fSnap, .int .i64 x108.fHard.fLog.fBase, .int .i64 x108.fHard.fLog.fBaseTerm, .slice A114 x108.fHard.fLog.fEntries.length c115, .slice A117 x108.fVotes.length c118, .slice A120 x108.fMarks.length c121] 43 (0, 0)) :: (100030, g82, .cells #[.int .i64 x60.fMe, .int .i64 x60.fRole, .int .i64 x60.fLeader, .int .i64 x60.fCommit, .int .i64 x60.fLeft, .int .i64 x60.fHard.fTerm, .int .i64 x60.fHard.fVote, .slice A63 x60.fHard.fVoters.length c64, .string x60.fHard.fSnap, .int .i64 x60.fHard.fLog.fBase, .int .i64 x60.fHard.fLog.fBaseTerm, .slice A66 x60.fHard.fLog.fEntries.length c67, .slice A69 x60.fVotes.length c70, .slice A72 x60.fMarks.length c73] 43 (0, 0)) :: (100010, g41, .cells #[.int .i64 x19.fMe, .int .i64 x19.fRole, .int .i64 x19.fLeader, .int .i64 x19.fCommit, .int .i64 x19.fLeft, .int .i64 x19.fHard.fTerm, .int .i64 x19.fHard.fVote, .slice A22 x19.fHard.fVoters.length c23, .string x19.fHard.fSnap, .int .i64 x19.fHard.fLog.fBase, .int .i64 x19.fHard.fLog.fBaseTerm, .slice A25 x19.fHard.fLog.fEntries.length c26, .slice A28 x19.fVotes.length c29, .slice A31 x19.fMarks.length c32] 43 (0, 0)) :: H, (100414, ⟨.slice A123 x109.length c124, 25, 11, x109.length, (x109.zip ps126).flatMap GNote.encP⟩) :: (100184, ⟨.slice A75 x61.length c76, 25, 11, x61.length, (x61.zip ps78).flatMap GNote.encP⟩) :: (100114, ⟨.slice A34 x20.length c35, 25, 11, x20.length, (x20.zip ps37).flatMap GNote.encP⟩) :: R, φ128⟩) (tag := 100414) rfl W hS) hv155) ?_
           rintro ⟨ad151, hA153, f152⟩
           have f158 := fun (W : World) (h : φ128 W) => (f127 W h _ hz156).1
           have f159 := fun (W : World) (h : φ128 W) => (f127 W h _ hz156).2
           refine g_v rfl (r_ix Try.underlying48 Try.sizeOf25 rfl hA153 rfl hx150) <| g_do rfl rfl rfl rfl rfl h149 ?_
           have f160 := fun (W : World) (h : (Sta.ok ⟨w0, M, (100050, g130, .cells #[.int .i64 x108.fMe, .int .i64 x108.fRole, .int .i64 x108.fLeader, .int .i64 x108.fCommit, .int .i64 x108.fLeft, .int .i64 x108.fHard.fTerm, .int .i64 x108.fHard.fVote, .slice A111 x108.fHard.fVoters.length c112, .string x108.fHard.fSnap, .int .i64 x108.fHard.fLog.fBase, .int .i64 x108.fHard.fLog.fBaseTerm, .slice A114 x108.fHard.fLog.fEntries.length c115, .slice A117 x108.fVotes.length c118, .slice A120 x108.fMarks.length c121] 43 (0, 0)) :: (100030, g82, .cells #[.int .i64 x60.fMe, .int .i64 x60.fRole, .int .i64 x60.fLeader, .int .i64 x60.fCommit, .int .i64 x60.fLeft, .int .i64 x60.fHard.fTerm, .int .i64 x60.fHard.fVote, .slice A63 x60.fHard.fVoters.length c64, .string x60.fHard.fSnap, .int .i64 x60.fHard.fLog.fBase, .int .i64 x60.fHard.fLog.fBaseTerm, .slice A66 x60.fHard.fLog.fEntries.length c67, .slice A69 x60.fVotes.length c70, .slice A72 x60.fMarks.length c73] 43 (0, 0)) :: (100010, g41, .cells #[.int .i64 x19.fMe, .int .i64 x19.fRole, .int .i64 x19.fLeader, .int .i64 x19.fCommit, .int .i64 x19.fLeft, .int .i64 x19.fHard.fTerm, .int .i64 x19.fHard.fVote, .slice A22 x19.fHard.fVoters.length c23, .string x19.fHard.fSnap, .int .i64 x19.fHard.fLog.fBase, .int .i64 x19.fHard.fLog.fBaseTerm, .slice A25 x19.fHard.fLog.fEntries.length c26, .slice A28 x19.fVotes.length c29, .slice A31 x19.fMarks.length c32] 43 (0, 0)) :: H, (100414, ⟨.slice A123 x109.length c124, 25, 11, x109.length, (x109.zip ps126).flatMap GNote.encP⟩) :: (100184, ⟨.slice A75 x61.length c76, 25, 11, x61.length, (x61.zip ps78).flatMap GNote.encP⟩) :: (100114, ⟨.slice A34 x20.length c35, 25, 11, x20.length, (x20.zip ps37).flatMap GNote.encP⟩) :: R, φ128⟩) W) => Cl.drop (f152 W h) 8
           refine g_v rfl (r_fieldF Try.underlying25 rfl Try.sizeOf22 rfl) <| g_do rfl rfl rfl rfl rfl h149 <| g_v rfl (r_ld rfl Try.isAgg22 (fun W hS => Cl.head (f160 W hS))) <| g_do rfl rfl rfl rfl rfl h149 <| g_v rfl (r_lenL Try.underlying22 rfl) <| g_do rfl rfl rfl rfl rfl h149 <| g_v rfl (r_eql rfl rfl) <| g_v rfl (r_pick1 rfl h149) <| g_v rfl r_move ?_
           refine g_if rfl rfl rfl rfl rfl (fun h161 => ?_) (fun h161 => ?_)
           ·
            replace hm := ite_t hm (of_decide_eq_true h161)
            refine g_e rfl (e_lit (tag := 100940) (l := [1, 2, 3]) (enc := (fun x : Int => [Value.int .i64 x])) (sz := 1) rfl Try.underlying23 (lit3_17 _ _ _) rfl rfl (fun _ => rfl)) (fun g162 _ => ?_)
            refine g_do rfl rfl rfl rfl rfl h161 ?_
            refine g_e rfl (e_lit (tag := 100950) (l := [3, 1]) (enc := (fun x : Int => [Value.int .i64 x])) (sz := 1) rfl Try.underlying23 (lit3_23 _ _) rfl rfl (fun _ => rfl)) (fun g163 _ => ?_)
            refine g_do rfl rfl rfl rfl rfl h161 ?_
            replace hm := bnd hm
            obtain ⟨x164, hx165, hm⟩ := hm
            refine g_cn ⟨w0, M, _, _, φ128⟩ (fun _ h => h) Try.call13 rfl rfl (c_raft_Majority [1, 2, 3] (some ⟨g162, 0, none⟩) 3 (Nat.le_refl _) (fun W hS => rowCl (tag := 100940) rfl W hS) [3, 1] (some ⟨g163, 0, none⟩) 2 (Nat.le_refl _) (fun W hS => rowCl (tag := 100950) rfl W hS) _ hx165) (fun _ _ => ?_)
            refine g_v rfl (r_pick1 rfl h161) <| g_v rfl r_assign <| g_nil <| d_then ?_
            refine c_flat [(0, .bool x164)] ⟨rfl, trivial⟩ (fun u => ?_)
            refine c_sta ⟨w0, M, (100050, g130, .cells #[.int .i64 x108.fMe, .int .i64 x108.fRole, .int .i64 x108.fLeader, .int .i64 x108.fCommit, .int .i64 x108.fLeft, .int .i64 x108.fHard.fTerm, .int .i64 x108.fHard.fVote, .slice A111 x108.fHard.fVoters.length c112, .string x108.fHard.fSnap, .int .i64 x108.fHard.fLog.fBase, .int .i64 x108.fHard.fLog.fBaseTerm, .slice A114 x108.fHard.fLog.fEntries.length c115, .slice A117 x108.fVotes.length c118, .slice A120 x108.fMarks.length c121] 43 (0, 0)) :: (100030, g82, .cells #[.int .i64 x60.fMe, .int .i64 x60.fRole, .int .i64 x60.fLeader, .int .i64 x60.fCommit, .int .i64 x60.fLeft, .int .i64 x60.fHard.fTerm, .int .i64 x60.fHard.fVote, .slice A63 x60.fHard.fVoters.length c64, .string x60.fHard.fSnap, .int .i64 x60.fHard.fLog.fBase, .int .i64 x60.fHard.fLog.fBaseTerm, .slice A66 x60.fHard.fLog.fEntries.length c67, .slice A69 x60.fVotes.length c70, .slice A72 x60.fMarks.length c73] 43 (0, 0)) :: (100010, g41, .cells #[.int .i64 x19.fMe, .int .i64 x19.fRole, .int .i64 x19.fLeader, .int .i64 x19.fCommit, .int .i64 x19.fLeft, .int .i64 x19.fHard.fTerm, .int .i64 x19.fHard.fVote, .slice A22 x19.fHard.fVoters.length c23, .string x19.fHard.fSnap, .int .i64 x19.fHard.fLog.fBase, .int .i64 x19.fHard.fLog.fBaseTerm, .slice A25 x19.fHard.fLog.fEntries.length c26, .slice A28 x19.fVotes.length c29, .slice A31 x19.fMarks.length c32] 43 (0, 0)) :: H, (100950, ⟨.slice (some ⟨g163, 0, none⟩) [3, 1].length 2, 3, 1, [3, 1].length, [3, 1].flatMap (fun x : Int => [Value.int .i64 x])⟩) :: (100940, ⟨.slice (some ⟨g162, 0, none⟩) [1, 2, 3].length 3, 3, 1, [1, 2, 3].length, [1, 2, 3].flatMap (fun x : Int => [Value.int .i64 x])⟩) :: (100414, ⟨.slice A123 x109.length c124, 25, 11, x109.length, (x109.zip ps126).flatMap GNote.encP⟩) :: (100184, ⟨.slice A75 x61.length c76, 25, 11, x61.length, (x61.zip ps78).flatMap GNote.encP⟩) :: (100114, ⟨.slice A34 x20.length c35, 25, 11, x20.length, (x20.zip ps37).flatMap GNote.encP⟩) :: R, φ128⟩ (fun _ h => h) <| c_ret ?_
            cases hm
            exact d_retC () Try.results9 (res_tmp (res_nil rfl)) trivial (fun W h => ok_pre (H1 := [_, _, _]) (R1 := [_, _, _, _, _]) h (fun W hφ => (q2 _ (q18 _ (q39 _ (q43 _ (q59 _ (q80 _ (q128 _ hφ))))))))) (.inr rfl)
           replace hm := ite_f hm (of_decide_eq_false h161)
           refine g_no rfl rfl rfl rfl rfl h161 <| g_no rfl rfl rfl rfl rfl h161 <| g_v rfl (r_pick0 rfl h161) <| g_v rfl r_assign <| g_nil <| d_then ?_
           refine c_flat [(0, .bool false)] ⟨rfl, trivial⟩ (fun u => ?_)
           refine c_ret ?_
           cases hm
           exact d_retC () Try.results9 (res_tmp (res_nil rfl)) trivial (fun W h => ok_pre (H1 := [_, _, _]) (R1 := [_, _, _]) h (fun W hφ => (q2 _ (q18 _ (q39 _ (q43 _ (q59 _ (q80 _ (q128 _ hφ))))))))) (.inr rfl)
          replace hm := ite_f hm (of_decide_eq_false h149)
          iterate 5 refine g_no rfl rfl rfl rfl rfl h149 ?_
          refine g_v rfl (r_pick0 rfl h149) <| g_v rfl r_move ?_
          iterate 3 refine g_no rfl rfl rfl rfl rfl rfl ?_
          refine g_v rfl (r_pick0 rfl rfl) <| g_v rfl r_assign <| g_nil <| d_then ?_
          refine c_flat [(0, .bool false)] ⟨rfl, trivial⟩ (fun u => ?_)
          refine c_ret ?_
          cases hm
          exact d_retC () Try.results9 (res_tmp (res_nil rfl)) trivial (fun W h => ok_pre (H1 := [_, _, _]) (R1 := [_, _, _]) h (fun W hφ => (q2 _ (q18 _ (q39 _ (q43 _ (q59 _ (q80 _ (q128 _ hφ))))))))) (.inr rfl)
         replace hm := ite_f hm (of_decide_eq_false h137)
         iterate 4 refine g_no rfl rfl rfl rfl rfl h137 ?_
         refine g_v rfl (r_pick0 rfl h137) <| g_v rfl r_move ?_
         iterate 6 refine g_no rfl rfl rfl rfl rfl rfl ?_
         refine g_v rfl (r_pick0 rfl rfl) <| g_v rfl r_move ?_
         iterate 3 refine g_no rfl rfl rfl rfl rfl rfl ?_
         refine g_v rfl (r_pick0 rfl rfl) <| g_v rfl r_assign <| g_nil <| d_then ?_
         refine c_flat [(0, .bool false)] ⟨rfl, trivial⟩ (fun u => ?_)
         refine c_ret ?_
         cases hm
         exact d_retC () Try.results9 (res_tmp (res_nil rfl)) trivial (fun W h => ok_pre (H1 := [_, _, _]) (R1 := [_, _, _]) h (fun W hφ => (q2 _ (q18 _ (q39 _ (q43 _ (q59 _ (q80 _ (q128 _ hφ))))))))) (.inr rfl)
        replace hm := ite_f hm (of_decide_eq_false h136)
        refine g_no rfl rfl rfl rfl rfl h136 <| g_no rfl rfl rfl rfl rfl h136 <| g_v rfl (r_pick0 rfl h136) <| g_v rfl r_move ?_
        iterate 5 refine g_no rfl rfl rfl rfl rfl rfl ?_
        refine g_v rfl (r_pick0 rfl rfl) <| g_v rfl r_move ?_
        iterate 6 refine g_no rfl rfl rfl rfl rfl rfl ?_
        refine g_v rfl (r_pick0 rfl rfl) <| g_v rfl r_move ?_
        iterate 3 refine g_no rfl rfl rfl rfl rfl rfl ?_
        refine g_v rfl (r_pick0 rfl rfl) <| g_v rfl r_assign <| g_nil <| d_then ?_
        refine c_flat [(0, .bool false)] ⟨rfl, trivial⟩ (fun u => ?_)
        refine c_ret ?_
        cases hm
        exact d_retC () Try.results9 (res_tmp (res_nil rfl)) trivial (fun W h => ok_pre (H1 := [_, _, _]) (R1 := [_, _, _]) h (fun W hφ => (q2 _ (q18 _ (q39 _ (q43 _ (q59 _ (q80 _ (q128 _ hφ))))))))) (.inr rfl)
       replace hm := ite_f hm (of_decide_eq_false h135)
       refine g_no rfl rfl rfl rfl rfl h135 <| g_no rfl rfl rfl rfl rfl h135 <| g_v rfl (r_pick0 rfl h135) <| g_v rfl r_move ?_
       iterate 3 refine g_no rfl rfl rfl rfl rfl rfl ?_
       refine g_v rfl (r_pick0 rfl rfl) <| g_v rfl r_move ?_
       iterate 5 refine g_no rfl rfl rfl rfl rfl rfl ?_
       refine g_v rfl (r_pick0 rfl rfl) <| g_v rfl r_move ?_
       iterate 6 refine g_no rfl rfl rfl rfl rfl rfl ?_
       refine g_v rfl (r_pick0 rfl rfl) <| g_v rfl r_move ?_
       iterate 3 refine g_no rfl rfl rfl rfl rfl rfl ?_
       refine g_v rfl (r_pick0 rfl rfl) <| g_v rfl r_assign <| g_nil <| d_then ?_
       refine c_flat [(0, .bool false)] ⟨rfl, trivial⟩ (fun u => ?_)
       refine c_ret ?_
       cases hm
       exact d_retC () Try.results9 (res_tmp (res_nil rfl)) trivial (fun W h => ok_pre (H1 := [_, _, _]) (R1 := [_, _, _]) h (fun W hφ => (q2 _ (q18 _ (q39 _ (q43 _ (q59 _ (q80 _ (q128 _ hφ))))))))) (.inr rfl)
      replace hm := ite_f hm (of_decide_eq_false h134)
      refine g_no rfl rfl rfl rfl rfl h134 <| g_no rfl rfl rfl rfl rfl h134 <| g_v rfl (r_pick0 rfl h134) <| g_v rfl r_move ?_
      iterate 3 refine g_no rfl rfl rfl rfl rfl rfl ?_
      refine g_v rfl (r_pick0 rfl rfl) <| g_v rfl r_move ?_
      iterate 3 refine g_no rfl rfl rfl rfl rfl rfl ?_
      refine g_v rfl (r_pick0 rfl rfl) <| g_v rfl r_move ?_
      iterate 5 refine g_no rfl rfl rfl rfl rfl rfl ?_
      refine g_v rfl (r_pick0 rfl rfl) <| g_v rfl r_move ?_
      iterate 6 refine g_no rfl rfl rfl rfl rfl rfl ?_
      refine g_v rfl (r_pick0 rfl rfl) <| g_v rfl r_move ?_
      iterate 3 refine g_no rfl rfl rfl rfl rfl rfl ?_
      refine g_v rfl (r_pick0 rfl rfl) <| g_v rfl r_assign <| g_nil <| d_then ?_
      refine c_flat [(0, .bool false)] ⟨rfl, trivial⟩ (fun u => ?_)
      refine c_ret ?_
      cases hm
      exact d_retC () Try.results9 (res_tmp (res_nil rfl)) trivial (fun W h => ok_pre (H1 := [_, _, _]) (R1 := [_, _, _]) h (fun W hφ => (q2 _ (q18 _ (q39 _ (q43 _ (q59 _ (q80 _ (q128 _ hφ))))))))) (.inr rfl)
     replace hm := ite_f hm (of_decide_eq_false h133)
     refine g_no rfl rfl rfl rfl rfl h133 <| g_no rfl rfl rfl rfl rfl h133 <| g_v rfl (r_pick0 rfl h133) <| g_v rfl r_move ?_
     iterate 3 refine g_no rfl rfl rfl rfl rfl rfl ?_
     refine g_v rfl (r_pick0 rfl rfl) <| g_v rfl r_move ?_
     iterate 3 refine g_no rfl rfl rfl rfl rfl rfl ?_
     refine g_v rfl (r_pick0 rfl rfl) <| g_v rfl r_move ?_
     iterate 3 refine g_no rfl rfl rfl rfl rfl rfl ?_
     refine g_v rfl (r_pick0 rfl rfl) <| g_v rfl r_move ?_
     iterate 5 refine g_no rfl rfl rfl rfl rfl rfl ?_
     refine g_v rfl (r_pick0 rfl rfl) <| g_v rfl r_move ?_
     iterate 6 refine g_no rfl rfl rfl rfl rfl rfl ?_
     refine g_v rfl (r_pick0 rfl rfl) <| g_v rfl r_move ?_
     iterate 3 refine g_no rfl rfl rfl rfl rfl rfl ?_
     refine g_v rfl (r_pick0 rfl rfl) <| g_v rfl r_assign <| g_nil <| d_then ?_
     refine c_flat [(0, .bool false)] ⟨rfl, trivial⟩ (fun u => ?_)
     refine c_ret ?_
     cases hm
     exact d_retC () Try.results9 (res_tmp (res_nil rfl)) trivial (fun W h => ok_pre (H1 := [_, _, _]) (R1 := [_, _, _]) h (fun W hφ => (q2 _ (q18 _ (q39 _ (q43 _ (q59 _ (q80 _ (q128 _ hφ))))))))) (.inr rfl)
    replace hm := ite_f hm (of_decide_eq_false h132)
    refine g_no rfl rfl rfl rfl rfl h132 <| g_no rfl rfl rfl rfl rfl h132 <| g_v rfl (r_pick0 rfl h132) <| g_v rfl r_move ?_
    iterate 3 refine g_no rfl rfl rfl rfl rfl rfl ?_
    refine g_v rfl (r_pick0 rfl rfl) <| g_v rfl r_move ?_
    iterate 3 refine g_no rfl rfl rfl rfl rfl rfl ?_
    refine g_v rfl (r_pick0 rfl rfl) <| g_v rfl r_move ?_
    iterate 3 refine g_no rfl rfl rfl rfl rfl rfl ?_
    refine g_v rfl (r_pick0 rfl rfl) <| g_v rfl r_move ?_
    iterate 3 refine g_no rfl rfl rfl rfl rfl rfl ?_
    refine g_v rfl (r_pick0 rfl rfl) <| g_v rfl r_move ?_
    iterate 5 refine g_no rfl rfl rfl rfl rfl rfl ?_
    refine g_v rfl (r_pick0 rfl rfl) <| g_v rfl r_move ?_
    iterate 6 refine g_no rfl rfl rfl rfl rfl rfl ?_
    refine g_v rfl (r_pick0 rfl rfl) <| g_v rfl r_move ?_
    iterate 3 refine g_no rfl rfl rfl rfl rfl rfl ?_
    refine g_v rfl (r_pick0 rfl rfl) <| g_v rfl r_assign <| g_nil <| d_then ?_
    refine c_flat [(0, .bool false)] ⟨rfl, trivial⟩ (fun u => ?_)
    refine c_ret ?_
    cases hm
    exact d_retC () Try.results9 (res_tmp (res_nil rfl)) trivial (fun W h => ok_pre (H1 := [_, _, _]) (R1 := [_, _, _]) h (fun W hφ => (q2 _ (q18 _ (q39 _ (q43 _ (q59 _ (q80 _ (q128 _ hφ))))))))) (.inr rfl)
   replace hm := ite_f hm (of_decide_eq_false h131)
   iterate 3 refine g_no rfl rfl rfl rfl rfl h131 ?_
   refine g_v rfl (r_pick0 rfl h131) <| g_v rfl r_move ?_
   iterate 3 refine g_no rfl rfl rfl rfl rfl rfl ?_
   refine g_v rfl (r_pick0 rfl rfl) <| g_v rfl r_move ?_
   iterate 3 refine g_no rfl rfl rfl rfl rfl rfl ?_
   refine g_v rfl (r_pick0 rfl rfl) <| g_v rfl r_move ?_
   iterate 3 refine g_no rfl rfl rfl rfl rfl rfl ?_
   refine g_v rfl (r_pick0 rfl rfl) <| g_v rfl r_move ?_
   iterate 3 refine g_no rfl rfl rfl rfl rfl rfl ?_
   refine g_v rfl (r_pick0 rfl rfl) <| g_v rfl r_move ?_
   iterate 3 refine g_no rfl rfl rfl rfl rfl rfl ?_
   refine g_v rfl (r_pick0 rfl rfl) <| g_v rfl r_move ?_
   iterate 5 refine g_no rfl rfl rfl rfl rfl rfl ?_
   refine g_v rfl (r_pick0 rfl rfl) <| g_v rfl r_move ?_
   iterate 6 refine g_no rfl rfl rfl rfl rfl rfl ?_
   refine g_v rfl (r_pick0 rfl rfl) <| g_v rfl r_move ?_
   iterate 3 refine g_no rfl rfl rfl rfl rfl rfl ?_
   refine g_v rfl (r_pick0 rfl rfl) <| g_v rfl r_assign <| g_nil <| d_then ?_
   refine c_flat [(0, .bool false)] ⟨rfl, trivial⟩ (fun u => ?_)
   refine c_ret ?_
   cases hm
   exact d_retC () Try.results9 (res_tmp (res_nil rfl)) trivial (fun W h => ok_pre (H1 := [_, _, _]) (R1 := [_, _, _]) h (fun W hφ => (q2 _ (q18 _ (q39 _ (q43 _ (q59 _ (q80 _ (q128 _ hφ))))))))) (.inr rfl)
  replace hm := ite_t hm (of_decide_eq_true h95)
  iterate 4 refine g_no rfl rfl rfl rfl rfl h95 ?_
  refine g_v rfl (r_pick1 rfl h95) <| g_nil <| d_then ?_
  refine c_flat [(1, .pointer (some ⟨g41, 0, none⟩)), (3, .pointer (some ⟨g82, 0, none⟩)), (37, .bool true)] ⟨rfl, rfl, rfl, trivial⟩ (fun u => ?_)
  refine c_cond1 rfl rfl <| c_seq <| c_region <| g_v rfl r_assign <| g_nil <| d_then <| c_ret <| d_ret_then ?_
  cases hm
  exact d_retC () Try.results9 (res_tmp (res_nil rfl)) trivial (fun W h => ok_pre (H1 := [_, _]) (R1 := [_, _]) h (fun W hφ => (q2 _ (q18 _ (q39 _ (q43 _ (q59 _ (q80 _ hφ)))))))) (.inr rfl)
 replace hm := ite_t hm (of_decide_eq_true h83)
 iterate 4 refine g_no rfl rfl rfl rfl rfl h83 ?_
 refine g_v rfl (r_pick1 rfl h83) <| g_v rfl r_move ?_
 iterate 5 refine g_no rfl rfl rfl rfl rfl rfl ?_
 refine g_v rfl (r_pick1 rfl rfl) <| g_nil <| d_then <| c_cond1 rfl rfl <| c_seq <| c_region <| g_v rfl r_assign <| g_nil <| d_then <| c_ret ?_
 refine d_ret_then ?_
 cases hm
 exact d_retC () Try.results9 (res_tmp (res_nil rfl)) trivial (fun W h => ok_pre (H1 := [_, _]) (R1 := [_, _]) h (fun W hφ => (q2 _ (q18 _ (q39 _ (q43 _ (q59 _ (q80 _ hφ)))))))) (.inr rfl)
noncomputable def m_law12_pick_j1 (p1 : Int) (i2 : Int) : Option Int :=
  (dvd p1).bind fun u3 =>
  some (i2.tmod p1)
noncomputable def m_law12_pick (p0 : Int) (p1 : Int) : Option Int :=
  if p0 < 0 then
    m_law12_pick_j1 p1 (w64 (0 - w64 (p0 + 1)))
  else
    m_law12_pick_j1 p1 p0
theorem c_law12_pick {w0 : World} {M : Nat → Prop} {H : List (Nat × Nat × Obj)} {R : List (Nat × Row)} {φ : World → Prop} (p0 : Int) (p1 : Int) (r : Int) (hm : m_law12_pick p0 p1 = some r) :
    Cn Try.prog 15 #[.int .i64 p0, .int .i64 p1] ⟨w0, M, H, R, φ⟩ (fun x : Unit => .int .i64 r) (fun x => True) (fun x => ⟨w0, M, H, R, φ⟩) := by
 unfold m_law12_pick at hm
 refine cn_intro (fn := Try.f15) (N := 13) Try.func15 rfl Try.ntmps15 rfl <| c_seq <| c_region <| g_v rfl r_assign <| g_nil <| d_then <| c_seq ?_
 refine c_cut (ι := Int) [0, 1] (fun i2 => [(0, .int .i64 i2)]) (fun i2 => ⟨w0, M, H, R, φ⟩) (fun i2 => m_law12_pick_j1 p1 i2 = some r) ?_ (fun i2 u hm => ?_)
 ·
  refine c_seq <| c_region <| g_v rfl r_move <| g_v rfl (r_lss rfl rfl) <| g_nil <| d_then ?_
  refine c_cond rfl (fun h4 => ?_) (fun h4 => ?_)
  ·
   replace hm := ite_t hm (of_decide_eq_true h4)
   refine c_region <| g_v rfl r_move <| g_v rfl (r_add rfl rfl rfl) <| g_v rfl (r_neg rfl rfl) <| g_v rfl r_assign <| g_nil ?_
   exact d_round (w64 (0 - w64 (p0 + 1))) hm Nat.zero_lt_one ⟨rfl, rfl, trivial⟩ (fun W h => h.phi (fun W hφ => hφ))
  replace hm := ite_f hm (of_decide_eq_false h4)
  refine c_skip ?_
  exact d_round p0 hm Nat.zero_lt_one ⟨rfl, rfl, trivial⟩ (fun W h => h.phi (fun W hφ => hφ))
 unfold m_law12_pick_j1 at hm
 refine d_flat [(0, .int .i64 i2), (1, .int .i64 p1)] ⟨rfl, rfl, trivial⟩ (fun u => ?_)
 refine d_sta ⟨w0, M, H, R, φ⟩ (fun _ h => h) <| d_then <| c_seq <| c_region <| g_v rfl r_move <| g_v rfl r_move ?_
 replace hm := bnd hm
 obtain ⟨u3, hu3, hm⟩ := hm
 refine g_v rfl (r_rem rfl rfl (dvd_some hu3) rfl) <| g_v rfl r_assign <| g_nil <| d_then <| c_ret ?_
 cases hm
 exact d_retC () Try.results15 (res_tmp (res_nil rfl)) trivial (fun W h => ok_pre (H1 := []) (R1 := []) h (fun W hφ => hφ)) (.inr rfl)
theorem lit3_24 (z0 : Int) (z1 : Int) (z2 : Int) (z3 : Int) (z4 : Int) : Try.prog.builtSlice 3 5 [(0, .int .i64 z0), (1, .int .i64 z1), (2, .int .i64 z2), (3, .int .i64 z3), (4, .int .i64 z4)] = some #[.int .i64 z0, .int .i64 z1, .int .i64 z2, .int .i64 z3, .int .i64 z4] := by kernel_rfl
theorem bld36_25 (z0 : Int) : ∀ W, (Instr.build 36 #[(0, .int .i64 z0)]).run Try.prog W = .ok (.agg #[.int .i64 z0, .int .i64 0, .string (⟨#[]⟩ : ByteArray)]) W := fun _ => by kernel_rfl
theorem lit36_26 (z0 : Int) (z1 : Int) (z2 : ByteArray) (z3 : Int) (z4 : Int) (z5 : ByteArray) : Try.prog.builtSlice 36 2 [(0, .agg #[.int .i64 z0, .int .i64 z1, .string z2]), (1, .agg #[.int .i64 z3, .int .i64 z4, .string z5])] = some #[.int .i64 z0, .int .i64 z1, .string z2, .int .i64 z3, .int .i64 z4, .string z5] := by kernel_rfl
theorem bld38_27 (zA0 : Option Addr) (zn0 : Nat) (zc0 : Nat) : ∀ W, (Instr.build 38 #[(2, .slice zA0 zn0 zc0)]).run Try.prog W = .ok (.agg #[.int .i64 0, .int .i64 0, .slice zA0 zn0 zc0]) W := fun _ => by kernel_rfl
theorem bld40_28 (z0 : Int) (zA1 : Option Addr) (zn1 : Nat) (zc1 : Nat) (z2 : Int) (z3 : Int) (zA4 : Option Addr) (zn4 : Nat) (zc4 : Nat) : ∀ W, (Instr.build 40 #[(0, .int .i64 z0), (2, .slice zA1 zn1 zc1), (4, .agg #[.int .i64 z2, .int .i64 z3, .slice zA4 zn4 zc4])]).run Try.prog W = .ok (.agg #[.int .i64 z0, .int .i64 0, .slice zA1 zn1 zc1, .string (⟨#[]⟩ : ByteArray), .int .i64 z2, .int .i64 z3, .slice zA4 zn4 zc4]) W := fun _ => by kernel_rfl
theorem bld25_29 (z0 : Int) (z1 : Int) (z2 : Int) (z3 : Int) (z4 : Int) : ∀ W, (Instr.build 25 #[(0, .int .i64 z0), (1, .int .i64 z1), (2, .int .i64 z2), (3, .int .i64 z3), (4, .int .i64 z4)]).run Try.prog W = .ok (.agg #[.int .i64 z0, .int .i64 z1, .int .i64 z2, .int .i64 z3, .int .i64 z4, .int .i64 0, .int .i64 0, .bool false, .slice none 0 0, .slice none 0 0, .string (⟨#[]⟩ : ByteArray)]) W := fun _ => by kernel_rfl
noncomputable def m_law12_RaftVotes_j1 (x2 : Bool) : Option Bool :=
  some x2
noncomputable def m_law12_RaftVotes_j5 (i1508 : Int) (l1021 : List Int) (i1507 : Int) (x1512 : GRaft) (i1019 : Int) (i1020 : Int) (b1623 : Bool) : Option ((Int × Int × (List Int) × Int × Int × Int × Int × Int × Int × Int × (List Int) × ByteArray × Int × Int × (List GEntry) × (List Int) × (List GMark)) ⊕ (Unit ⊕ Bool)) :=
  (aix 8 i1508).bind fun a1644 =>
  (l1021[(0 + a1644 * 1)]?).bind fun x1645 =>
  if x1645 ≠ 0 then
    (aix 8 i1508).bind fun a1647 =>
    (l1021[(0 + a1647 * 1)]?).bind fun x1648 =>
    if x1648 ≠ i1507 then
      some (.inr (.inr false))
    else
      if b1623 = true then
        some (.inr (.inr false))
      else
        if x1512.fHard.fTerm ≠ i1508 then
          some (.inr (.inr false))
        else
          if x1512.fHard.fVote ≠ w64 (i1507 + 1) then
            some (.inr (.inr false))
          else
            (aix 8 i1508).bind fun a1653 =>
            (setN l1021 (0 + a1653 * 1) i1507).bind fun l1654 =>
            some (.inl (i1019, w64 (i1020 + 1), l1654, x1512.fMe, x1512.fRole, x1512.fLeader, x1512.fCommit, x1512.fLeft, x1512.fHard.fTerm, x1512.fHard.fVote, x1512.fHard.fVoters, x1512.fHard.fSnap, x1512.fHard.fLog.fBase, x1512.fHard.fLog.fBaseTerm, x1512.fHard.fLog.fEntries, x1512.fVotes, x1512.fMarks))
  else
    if b1623 = true then
      some (.inr (.inr false))
    else
      if x1512.fHard.fTerm ≠ i1508 then
        some (.inr (.inr false))
      else
        if x1512.fHard.fVote ≠ w64 (i1507 + 1) then
          some (.inr (.inr false))
        else
          (aix 8 i1508).bind fun a1659 =>
          (setN l1021 (0 + a1659 * 1) i1507).bind fun l1660 =>
          some (.inl (i1019, w64 (i1020 + 1), l1660, x1512.fMe, x1512.fRole, x1512.fLeader, x1512.fCommit, x1512.fLeft, x1512.fHard.fTerm, x1512.fHard.fVote, x1512.fHard.fVoters, x1512.fHard.fSnap, x1512.fHard.fLog.fBase, x1512.fHard.fLog.fBaseTerm, x1512.fHard.fLog.fEntries, x1512.fVotes, x1512.fMarks))
noncomputable def m_law12_RaftVotes_j4 (x1371 : Glaw12_Act) (i1394 : Int) (i1395 : Int) (i1396 : Int) (i1397 : Int) (i1398 : Int) (i1399 : Int) (i1400 : Int) (l1401 : List Int) (s1405 : ByteArray) (i1406 : Int) (i1407 : Int) (l1408 : List GEntry) (l1412 : List Int) (l1416 : List GMark) (i1019 : Int) (l1021 : List Int) (i1020 : Int) (i1507 : Int) (i1508 : Int) (i1509 : Int) : Option ((Int × Int × (List Int) × Int × Int × Int × Int × Int × Int × Int × (List Int) × ByteArray × Int × Int × (List GEntry) × (List Int) × (List GMark)) ⊕ (Unit ⊕ Bool)) :=
  (m_law12_pick x1371.fTimeout (w64 (i1508 + 1))).bind fun x1510 =>
  (m_raft_Receive (⟨i1394, i1395, i1396, i1397, i1398, (⟨i1399, i1400, l1401, s1405, (⟨i1406, i1407, l1408⟩ : GLog)⟩ : GHard), l1412, l1416⟩ : GRaft) (⟨1, i1507, 0, i1508, i1509, x1510, 0, false, ([] : List GEntry), ([] : List Int), (⟨#[]⟩ : ByteArray)⟩ : GNote) 5).bind fun (z1533 : GRaft × (List GNote)) =>
  if (z1533.2.length : Int) ≠ 1 then
    some (.inr (.inr false))
  else
    (at_ z1533.2 0).bind fun x1584 =>
    if x1584.fKind ≠ 2 then
      some (.inr (.inr false))
    else
      (at_ z1533.2 0).bind fun x1596 =>
      if x1596.fTo ≠ i1507 then
        some (.inr (.inr false))
      else
        (at_ z1533.2 0).bind fun x1608 =>
        if x1608.fGood = true then
          if x1510 < i1019 then
            m_law12_RaftVotes_j5 i1508 l1021 i1507 z1533.1 i1019 i1020 true
          else
            if x1510 = i1019 then
              m_law12_RaftVotes_j5 i1508 l1021 i1507 z1533.1 i1019 i1020 (decide (i1509 < 2))
            else
              m_law12_RaftVotes_j5 i1508 l1021 i1507 z1533.1 i1019 i1020 false
        else
          some (.inl (i1019, w64 (i1020 + 1), l1021, z1533.1.fMe, z1533.1.fRole, z1533.1.fLeader, z1533.1.fCommit, z1533.1.fLeft, z1533.1.fHard.fTerm, z1533.1.fHard.fVote, z1533.1.fHard.fVoters, z1533.1.fHard.fSnap, z1533.1.fHard.fLog.fBase, z1533.1.fHard.fLog.fBaseTerm, z1533.1.fHard.fLog.fEntries, z1533.1.fVotes, z1533.1.fMarks))
noncomputable def m_law12_RaftVotes_j3 (x1371 : Glaw12_Act) (i1019 : Int) (l1021 : List Int) (i1020 : Int) (i1394 : Int) (i1395 : Int) (i1396 : Int) (i1397 : Int) (i1398 : Int) (i1399 : Int) (i1400 : Int) (l1401 : List Int) (s1405 : ByteArray) (i1406 : Int) (i1407 : Int) (l1408 : List GEntry) (l1412 : List Int) (l1416 : List GMark) : Option ((Int × Int × (List Int) × Int × Int × Int × Int × Int × Int × Int × (List Int) × ByteArray × Int × Int × (List GEntry) × (List Int) × (List GMark)) ⊕ (Unit ⊕ Bool)) :=
  (m_law12_pick x1371.fA 4).bind fun x1698 =>
  (m_law12_pick x1371.fPick 6).bind fun x1701 =>
  (m_law12_pick x1371.fB 4).bind fun x1703 =>
  m_law12_RaftVotes_j4 x1371 i1394 i1395 i1396 i1397 i1398 i1399 i1400 l1401 s1405 i1406 i1407 l1408 l1412 l1416 i1019 l1021 i1020 (w64 (1 + x1698)) (w64 (1 + x1701)) x1703
noncomputable def m_law12_RaftVotes_s2 (p0 : List Glaw12_Act) (i1019 : Int) (i1020 : Int) (l1021 : List Int) (i1022 : Int) (i1023 : Int) (i1024 : Int) (i1025 : Int) (i1026 : Int) (i1027 : Int) (i1028 : Int) (l1029 : List Int) (s1033 : ByteArray) (i1034 : Int) (i1035 : Int) (l1036 : List GEntry) (l1040 : List Int) (l1044 : List GMark) : Option ((Int × Int × (List Int) × Int × Int × Int × Int × Int × Int × Int × (List Int) × ByteArray × Int × Int × (List GEntry) × (List Int) × (List GMark)) ⊕ (Unit ⊕ Bool)) :=
  if i1020 < (p0.length : Int) then
    if i1020 < 60 then
      (at_ p0 i1020).bind fun x1371 =>
      (m_law12_pick x1371.fKind 5).bind fun x1715 =>
      if x1715 = 4 then
        (m_raft_New 0 (⟨i1027, i1028, l1029, s1033, (⟨i1034, i1035, l1036⟩ : GLog)⟩ : GHard) i1025).bind fun x1718 =>
        m_law12_RaftVotes_j3 x1371 i1019 l1021 i1020 x1718.fMe x1718.fRole x1718.fLeader x1718.fCommit x1718.fLeft x1718.fHard.fTerm x1718.fHard.fVote x1718.fHard.fVoters x1718.fHard.fSnap x1718.fHard.fLog.fBase x1718.fHard.fLog.fBaseTerm x1718.fHard.fLog.fEntries x1718.fVotes x1718.fMarks
      else
        m_law12_RaftVotes_j3 x1371 i1019 l1021 i1020 i1022 i1023 i1024 i1025 i1026 i1027 i1028 l1029 s1033 i1034 i1035 l1036 l1040 l1044
    else
      some (.inr (.inl ()))
  else
    some (.inr (.inl ()))
noncomputable def m_law12_RaftVotes (p0 : List Glaw12_Act) (p1 : Garray33) : Option Bool :=
  (m_law12_awake).bind fun x2 =>
  (m_law12_pick p1.a0 2).bind fun x4 =>
  (m_law12_pick p1.a1 2).bind fun x6 =>
  (m_raft_New 0 (⟨w64 ((w64 (1 + x4)) + x6), 0, [0, 1, 2, 3, 4], (⟨#[]⟩ : ByteArray), (⟨0, 0, [(⟨w64 (1 + x4), 0, (⟨#[]⟩ : ByteArray)⟩ : GEntry), (⟨w64 ((w64 (1 + x4)) + x6), 0, (⟨#[]⟩ : ByteArray)⟩ : GEntry)]⟩ : GLog)⟩ : GHard) 0).bind fun x15 =>
  (loop (fun s => m_law12_RaftVotes_s2 p0 s.1 s.2.1 s.2.2.1 s.2.2.2.1 s.2.2.2.2.1 s.2.2.2.2.2.1 s.2.2.2.2.2.2.1 s.2.2.2.2.2.2.2.1 s.2.2.2.2.2.2.2.2.1 s.2.2.2.2.2.2.2.2.2.1 s.2.2.2.2.2.2.2.2.2.2.1 s.2.2.2.2.2.2.2.2.2.2.2.1 s.2.2.2.2.2.2.2.2.2.2.2.2.1 s.2.2.2.2.2.2.2.2.2.2.2.2.2.1 s.2.2.2.2.2.2.2.2.2.2.2.2.2.2.1 s.2.2.2.2.2.2.2.2.2.2.2.2.2.2.2.1 s.2.2.2.2.2.2.2.2.2.2.2.2.2.2.2.2) (w64 ((w64 (1 + x4)) + x6), 0, (List.replicate 8 0), x15.fMe, x15.fRole, x15.fLeader, x15.fCommit, x15.fLeft, x15.fHard.fTerm, x15.fHard.fVote, x15.fHard.fVoters, x15.fHard.fSnap, x15.fHard.fLog.fBase, x15.fHard.fLog.fBaseTerm, x15.fHard.fLog.fEntries, x15.fVotes, x15.fMarks)).bind fun e => Sum.elim (fun e => m_law12_RaftVotes_j1 x2) (fun x => some x) e
theorem c_law12_RaftVotes {w0 : World} {M : Nat → Prop} {H : List (Nat × Nat × Obj)} {R : List (Nat × Row)} {φ : World → Prop} (p0 : List Glaw12_Act) (Ap0_0 : Option Addr) (cp0_0 : Nat) (hcp0_0 : p0.length ≤ cp0_0) (fp0_0 : ∀ W, (Sta.mk w0 M H R φ).ok W → Cl W Ap0_0 (p0.flatMap Glaw12_Act.enc)) (p1 : Garray33) (r : Bool) (hm : m_law12_RaftVotes p0 p1 = some r) :
    Cn Try.prog 4 #[.slice Ap0_0 p0.length cp0_0, .agg #[.int .i64 p1.a0, .int .i64 p1.a1]] ⟨w0, M, H, R, φ⟩ (fun x : Unit => .bool r) (fun x => True) (fun x => ⟨w0, M, H, R, φ⟩) := by
 unfold m_law12_RaftVotes at hm
 refine cn_intro (fn := Try.f4) (N := 166) Try.func4 rfl Try.ntmps4 rfl <| c_seq <| c_region ?_
 refine g_e rfl (e_box 100030 rfl) (fun g1 _ => ?_)
 refine g_v rfl r_assign <| g_nil <| d_then <| c_seq <| c_region ?_
 replace hm := bnd hm
 obtain ⟨x2, hx3, hm⟩ := hm
 refine g_cn ⟨w0, M, _, _, φ⟩ (fun _ h => h) Try.call9 rfl rfl (c_law12_awake  _ hx3) (fun _ _ => ?_)
 refine g_v rfl r_assign <| g_nil <| d_then <| c_seq <| c_region <| g_v rfl (r_elemH (n := 0) Try.underlying33 Try.sizeOf3 rfl rfl (by decide) (by decide) rfl) <| g_v rfl (r_load (tag := 100030) rfl rfl rfl Try.isAgg3) ?_
 replace hm := bnd hm
 obtain ⟨x4, hx5, hm⟩ := hm
 refine g_cn ⟨w0, M, _, _, φ⟩ (fun _ h => h) Try.call15 rfl rfl (c_law12_pick p1.a0 2 _ hx5) (fun _ _ => ?_)
 refine g_v rfl (r_add rfl rfl rfl) <| g_v rfl r_assign <| g_nil <| d_then ?_
 refine c_flat [(0, .slice Ap0_0 p0.length cp0_0), (3, .pointer (some ⟨g1, 0, none⟩)), (5, .bool x2), (6, .int .i64 (w64 (1 + x4)))] ⟨rfl, rfl, rfl, rfl, trivial⟩ (fun u => ?_)
 refine c_sta ⟨w0, M, (100030, g1, .cells #[.int .i64 p1.a0, .int .i64 p1.a1] 33 (0, 0)) :: H, R, φ⟩ (fun _ h => h) <| c_seq <| c_region <| g_v rfl r_move <| g_v rfl (r_elemH (n := 1) Try.underlying33 Try.sizeOf3 rfl rfl (by decide) (by decide) rfl) <| g_v rfl (r_load (tag := 100030) rfl rfl rfl Try.isAgg3) ?_
 replace hm := bnd hm
 obtain ⟨x6, hx7, hm⟩ := hm
 refine g_cn ⟨w0, M, _, _, φ⟩ (fun _ h => h) Try.call15 rfl rfl (c_law12_pick p1.a1 2 _ hx7) (fun _ _ => ?_)
 refine g_v rfl (r_add rfl rfl rfl) <| g_v rfl r_assign <| g_nil <| d_then <| c_seq <| c_region <| g_v rfl r_move ?_
 refine g_e rfl (e_lit (tag := 100280) (l := [0, 1, 2, 3, 4]) (enc := (fun x : Int => [Value.int .i64 x])) (sz := 1) rfl Try.underlying23 (lit3_24 _ _ _ _ _) rfl rfl (fun _ => rfl)) (fun g8 _ => ?_)
 refine g_v rfl r_move <| g_v rfl (r_build _ rfl (bld36_25 _)) <| g_v rfl r_move <| g_v rfl (r_build _ rfl (bld36_25 _)) ?_
 refine g_e rfl (e_lit (tag := 100330) (l := [(⟨w64 (1 + x4), 0, (⟨#[]⟩ : ByteArray)⟩ : GEntry), (⟨w64 ((w64 (1 + x4)) + x6), 0, (⟨#[]⟩ : ByteArray)⟩ : GEntry)]) (enc := GEntry.enc) (sz := 3) rfl Try.underlying22 (lit36_26 _ _ _ _ _ _) rfl rfl (fun _ => rfl)) (fun g9 _ => ?_)
 refine g_v rfl (r_build _ rfl (bld38_27 _ _ _)) <| g_v rfl (r_build _ rfl (bld40_28 _ _ _ _ _ _ _ _ _)) ?_
 refine g_e rfl (e_alloc 100080 Try.zeroValue40) (fun g10 _ => ?_)
 refine g_storeL (tag := 100080) rfl rfl rfl rfl Try.sizeOf40 rfl rfl <| g_nil <| d_then ?_
 refine c_flat [(0, .slice Ap0_0 p0.length cp0_0), (5, .bool x2), (7, .int .i64 (w64 ((w64 (1 + x4)) + x6))), (8, .pointer (some ⟨g10, 0, none⟩))] ⟨rfl, rfl, rfl, rfl, trivial⟩ (fun u => ?_)
 refine c_sta ⟨w0, M, (100080, g10, .cells #[.int .i64 (w64 ((w64 (1 + x4)) + x6)), .int .i64 0, .slice (some ⟨g8, 0, none⟩) [0, 1, 2, 3, 4].length 5, .string (⟨#[]⟩ : ByteArray), .int .i64 0, .int .i64 0, .slice (some ⟨g9, 0, none⟩) ([(⟨w64 (1 + x4), 0, (⟨#[]⟩ : ByteArray)⟩ : GEntry), (⟨w64 ((w64 (1 + x4)) + x6), 0, (⟨#[]⟩ : ByteArray)⟩ : GEntry)]).length 2] 40 (0, 0)) :: (100030, g1, .cells #[.int .i64 p1.a0, .int .i64 p1.a1] 33 (0, 0)) :: H, (100330, ⟨.slice (some ⟨g9, 0, none⟩) ([(⟨w64 (1 + x4), 0, (⟨#[]⟩ : ByteArray)⟩ : GEntry), (⟨w64 ((w64 (1 + x4)) + x6), 0, (⟨#[]⟩ : ByteArray)⟩ : GEntry)]).length 2, 36, 3, ([(⟨w64 (1 + x4), 0, (⟨#[]⟩ : ByteArray)⟩ : GEntry), (⟨w64 ((w64 (1 + x4)) + x6), 0, (⟨#[]⟩ : ByteArray)⟩ : GEntry)]).length, ([(⟨w64 (1 + x4), 0, (⟨#[]⟩ : ByteArray)⟩ : GEntry), (⟨w64 ((w64 (1 + x4)) + x6), 0, (⟨#[]⟩ : ByteArray)⟩ : GEntry)]).flatMap GEntry.enc⟩) :: (100280, ⟨.slice (some ⟨g8, 0, none⟩) [0, 1, 2, 3, 4].length 5, 3, 1, [0, 1, 2, 3, 4].length, [0, 1, 2, 3, 4].flatMap (fun x : Int => [Value.int .i64 x])⟩) :: R, φ⟩ (fun _ h => h) <| c_seq <| c_region <| g_v rfl (r_loadA (tag := 100080) rfl rfl Try.isAgg40 Try.sizeOf40 rfl rfl) ?_
 refine g_shut (tag := 100280) rfl (fun φ11 q11' => ?_)
 have q11 : ∀ W, φ11 W → φ W := fun W h => (q11' W h).1
 have f12 := fun (W : World) (h : φ11 W) => (q11' W h).2
 refine g_shut (tag := 100330) rfl (fun φ13 q13' => ?_)
 have q13 : ∀ W, φ13 W → φ11 W := fun W h => (q13' W h).1
 have f14 := fun (W : World) (h : φ13 W) => (q13' W h).2
 replace hm := bnd hm
 obtain ⟨x15, hx16, hm⟩ := hm
 refine g_cn ⟨w0, M, _, _, φ13⟩ (fun _ h => h) Try.call16 rfl rfl (c_raft_New 0 (⟨w64 ((w64 (1 + x4)) + x6), 0, [0, 1, 2, 3, 4], (⟨#[]⟩ : ByteArray), (⟨0, 0, [(⟨w64 (1 + x4), 0, (⟨#[]⟩ : ByteArray)⟩ : GEntry), (⟨w64 ((w64 (1 + x4)) + x6), 0, (⟨#[]⟩ : ByteArray)⟩ : GEntry)]⟩ : GLog)⟩ : GHard) (some ⟨g8, 0, none⟩) 5 (Nat.le_refl _) (fun W h => f12 W (q13 _ h)) (some ⟨g9, 0, none⟩) 2 (Nat.le_refl _) (fun W h => f14 W h) 0 _ hx16) (fun ⟨A17, c18, A20, c21, A23, c24, A26, c27⟩ ⟨hc18, hc21, hc24, hc27⟩ => ?_)
 refine g_abs (fun φ29 q29' => ?_)
 have q29 : ∀ W, φ29 W → φ13 W := fun W h => (q29' W h).1
 have f19 := fun (W : World) (h : φ29 W) => (q29' W h).2.1
 have f22 := fun (W : World) (h : φ29 W) => (q29' W h).2.2.1
 have f25 := fun (W : World) (h : φ29 W) => (q29' W h).2.2.2.1
 have f28 := fun (W : World) (h : φ29 W) => (q29' W h).2.2.2.2
 refine g_e rfl (e_alloc 100090 Try.zeroValue43) (fun g30 _ => ?_)
 refine g_storeL (tag := 100090) rfl rfl rfl rfl Try.sizeOf43 rfl rfl <| g_nil <| d_then <| c_seq <| c_region ?_
 refine g_e rfl (e_alloc 100100 Try.zeroValue45) (fun g31 _ => ?_)
 refine g_sta ⟨w0, M, (100100, g31, .cells ((List.replicate 8 0).map (fun x : Int => Value.int .i64 x)).toArray 45 (0, 0)) :: (100090, g30, .cells #[.int .i64 x15.fMe, .int .i64 x15.fRole, .int .i64 x15.fLeader, .int .i64 x15.fCommit, .int .i64 x15.fLeft, .int .i64 x15.fHard.fTerm, .int .i64 x15.fHard.fVote, .slice A17 x15.fHard.fVoters.length c18, .string x15.fHard.fSnap, .int .i64 x15.fHard.fLog.fBase, .int .i64 x15.fHard.fLog.fBaseTerm, .slice A20 x15.fHard.fLog.fEntries.length c21, .slice A23 x15.fVotes.length c24, .slice A26 x15.fMarks.length c27] 43 (0, 0)) :: (100080, g10, .cells #[.int .i64 (w64 ((w64 (1 + x4)) + x6)), .int .i64 0, .slice (some ⟨g8, 0, none⟩) [0, 1, 2, 3, 4].length 5, .string (⟨#[]⟩ : ByteArray), .int .i64 0, .int .i64 0, .slice (some ⟨g9, 0, none⟩) ([(⟨w64 (1 + x4), 0, (⟨#[]⟩ : ByteArray)⟩ : GEntry), (⟨w64 ((w64 (1 + x4)) + x6), 0, (⟨#[]⟩ : ByteArray)⟩ : GEntry)]).length 2] 40 (0, 0)) :: (100030, g1, .cells #[.int .i64 p1.a0, .int .i64 p1.a1] 33 (0, 0)) :: H, R, φ29⟩ (fun _ h => blk_eq (by kernel_rfl) h) <| g_nil <| d_then <| c_seq ?_
 refine c_cut (ι := Unit) [5] (fun _ => []) (fun _ => ⟨w0, M, H, R, φ29⟩) (fun _ => m_law12_RaftVotes_j1 x2 = some r) ?_ (fun _ u hm => ?_)
 ·
  refine c_seq <| c_region <| g_v rfl r_assign <| g_nil <| d_then <| c_block ?_
  replace hm := bnd hm
  obtain ⟨out2, hl2, hr2⟩ := hm
  obtain ⟨n1367', hl2⟩ := loop_lp hl2
  refine c_loopU (ι := Nat × Int × Int × (List Int) × Int × Int × Int × Int × Int × Int × Int × (List Int) × ByteArray × Int × Int × (List GEntry) × (List Int) × (List GMark) × Option Addr × Nat × Option Addr × Nat × Option Addr × Nat × Option Addr × Nat) [0, 5, 7, 9, 10, 11] (fun ⟨n1367, i1019, i1020, l1021, i1022, i1023, i1024, i1025, i1026, i1027, i1028, l1029, s1033, i1034, i1035, l1036, l1040, l1044, A1030, c1031, A1037, c1038, A1041, c1042, A1045, c1046⟩ => [(7, .int .i64 i1019), (11, .int .i64 i1020)]) (fun ⟨n1367, i1019, i1020, l1021, i1022, i1023, i1024, i1025, i1026, i1027, i1028, l1029, s1033, i1034, i1035, l1036, l1040, l1044, A1030, c1031, A1037, c1038, A1041, c1042, A1045, c1046⟩ => ⟨w0, M, (100100, g31, .cells (l1021.map (fun x : Int => Value.int .i64 x)).toArray 45 (0, 0)) :: (100090, g30, .cells #[.int .i64 i1022, .int .i64 i1023, .int .i64 i1024, .int .i64 i1025, .int .i64 i1026, .int .i64 i1027, .int .i64 i1028, .slice A1030 l1029.length c1031, .string s1033, .int .i64 i1034, .int .i64 i1035, .slice A1037 l1036.length c1038, .slice A1041 l1040.length c1042, .slice A1045 l1044.length c1046] 43 (0, 0)) :: H, R, fun W => φ29 W ∧ Cl W A1030 (l1029.flatMap (fun x : Int => [Value.int .i64 x])) ∧ Cl W A1037 (l1036.flatMap GEntry.enc) ∧ Cl W A1041 (l1040.flatMap (fun x : Int => [Value.int .i64 x])) ∧ Cl W A1045 (l1044.flatMap GMark.enc)⟩) (fun ⟨n1367, i1019, i1020, l1021, i1022, i1023, i1024, i1025, i1026, i1027, i1028, l1029, s1033, i1034, i1035, l1036, l1040, l1044, A1030, c1031, A1037, c1038, A1041, c1042, A1045, c1046⟩ => Lp (fun s => m_law12_RaftVotes_s2 p0 s.1 s.2.1 s.2.2.1 s.2.2.2.1 s.2.2.2.2.1 s.2.2.2.2.2.1 s.2.2.2.2.2.2.1 s.2.2.2.2.2.2.2.1 s.2.2.2.2.2.2.2.2.1 s.2.2.2.2.2.2.2.2.2.1 s.2.2.2.2.2.2.2.2.2.2.1 s.2.2.2.2.2.2.2.2.2.2.2.1 s.2.2.2.2.2.2.2.2.2.2.2.2.1 s.2.2.2.2.2.2.2.2.2.2.2.2.2.1 s.2.2.2.2.2.2.2.2.2.2.2.2.2.2.1 s.2.2.2.2.2.2.2.2.2.2.2.2.2.2.2.1 s.2.2.2.2.2.2.2.2.2.2.2.2.2.2.2.2) n1367 (i1019, i1020, l1021, i1022, i1023, i1024, i1025, i1026, i1027, i1028, l1029, s1033, i1034, i1035, l1036, l1040, l1044) out2 ∧ l1029.length ≤ c1031 ∧ l1036.length ≤ c1038 ∧ l1040.length ≤ c1042 ∧ l1044.length ≤ c1046) (fun ⟨n1367, i1019, i1020, l1021, i1022, i1023, i1024, i1025, i1026, i1027, i1028, l1029, s1033, i1034, i1035, l1036, l1040, l1044, A1030, c1031, A1037, c1038, A1041, c1042, A1045, c1046⟩ => n1367) (n1367', w64 ((w64 (1 + x4)) + x6), 0, (List.replicate 8 0), x15.fMe, x15.fRole, x15.fLeader, x15.fCommit, x15.fLeft, x15.fHard.fTerm, x15.fHard.fVote, x15.fHard.fVoters, x15.fHard.fSnap, x15.fHard.fLog.fBase, x15.fHard.fLog.fBaseTerm, x15.fHard.fLog.fEntries, x15.fVotes, x15.fMarks, A17, c18, A20, c21, A23, c24, A26, c27) ⟨hl2, hc18, hc21, hc24, hc27⟩ ⟨rfl, rfl, rfl, rfl, rfl, rfl, trivial⟩ (fun W h => ((h.dropH (t := 100080) rfl).dropH (t := 100030) rfl).phi (fun W hφ => ⟨hφ, (fun W h => f19 W h) W hφ, (fun W h => f22 W h) W hφ, (fun W h => f25 W h) W hφ, (fun W h => f28 W h) W hφ⟩)) (fun ⟨n1367, i1019, i1020, l1021, i1022, i1023, i1024, i1025, i1026, i1027, i1028, l1029, s1033, i1034, i1035, l1036, l1040, l1044, A1030, c1031, A1037, c1038, A1041, c1042, A1045, c1046⟩ u ⟨hlp, hc1031, hc1038, hc1042, hc1046⟩ => ?_)
  obtain ⟨o2, hm, hnx2⟩ := lp_step hlp
  clear hlp
  replace hm : m_law12_RaftVotes_s2 p0 i1019 i1020 l1021 i1022 i1023 i1024 i1025 i1026 i1027 i1028 l1029 s1033 i1034 i1035 l1036 l1040 l1044 = some o2 := hm
  unfold m_law12_RaftVotes_s2 at hm
  refine c_abs (fun φ1368 q1368' => ?_)
  have q1368 : ∀ W, φ1368 W → φ29 W := fun W h => (q1368' W h).1
  have f1032 := fun (W : World) (h : φ1368 W) => (q1368' W h).2.1
  have f1039 := fun (W : World) (h : φ1368 W) => (q1368' W h).2.2.1
  have f1043 := fun (W : World) (h : φ1368 W) => (q1368' W h).2.2.2.1
  have f1047 := fun (W : World) (h : φ1368 W) => (q1368' W h).2.2.2.2
  refine c_flat [(0, .slice Ap0_0 p0.length cp0_0), (5, .bool x2), (7, .int .i64 i1019), (9, .pointer (some ⟨g30, 0, none⟩)), (10, .pointer (some ⟨g31, 0, none⟩)), (11, .int .i64 i1020)] ⟨rfl, rfl, rfl, rfl, rfl, rfl, trivial⟩ (fun u => ?_)
  refine c_sta ⟨w0, M, (100100, g31, .cells (l1021.map (fun x : Int => Value.int .i64 x)).toArray 45 (0, 0)) :: (100090, g30, .cells #[.int .i64 i1022, .int .i64 i1023, .int .i64 i1024, .int .i64 i1025, .int .i64 i1026, .int .i64 i1027, .int .i64 i1028, .slice A1030 l1029.length c1031, .string s1033, .int .i64 i1034, .int .i64 i1035, .slice A1037 l1036.length c1038, .slice A1041 l1040.length c1042, .slice A1045 l1044.length c1046] 43 (0, 0)) :: H, R, φ1368⟩ (fun _ h => h) <| c_seq <| c_seq <| c_region <| g_v rfl r_move <| g_v rfl r_move <| g_v rfl (r_lenL Try.underlying32 rfl) <| g_v rfl (r_lss rfl rfl) <| g_v rfl r_move ?_
  refine g_if rfl rfl rfl rfl rfl (fun h1369 => ?_) (fun h1369 => ?_)
  ·
   replace hm := ite_t hm (of_decide_eq_true h1369)
   refine g_v rfl r_move <| g_do rfl rfl rfl rfl rfl h1369 <| g_v rfl (r_lss rfl rfl) <| g_v rfl (r_pick1 rfl h1369) <| g_nil <| d_then ?_
   refine c_cond rfl (fun h1370 => ?_) (fun h1370 => ?_)
   ·
    replace hm := ite_t hm (of_decide_eq_true h1370)
    refine c_skip <| d_then <| c_seq <| c_block <| c_seq <| c_region <| g_v rfl r_move <| g_v rfl r_move ?_
    replace hm := bnd hm
    obtain ⟨x1371, hx1371, hm⟩ := hm
    refine g_know _ (fun W hS => cl_at (p := (Sta.mk w0 M H R φ).ok) (sz := 5) (fun _ => rfl) (by decide) (ok_pre (H1 := [_, _]) (R1 := []) hS (fun W h => (q11 _ (q13 _ (q29 _ (q1368 _ h)))))) fp0_0 hx1371) ?_
    rintro ⟨ad1372, hA1374, f1373⟩
    refine g_v rfl (r_ix Try.underlying32 Try.sizeOf47 rfl hA1374 rfl hx1371) <| g_v rfl (r_ldA rfl Try.isAgg47 Try.sizeOf47 (fun W hS => (f1373 W (ok_pre (H1 := [_, _]) (R1 := []) hS (fun W h => (q11 _ (q13 _ (q29 _ (q1368 _ h))))))).take 5) rfl) ?_
    refine g_e rfl (e_alloc 100120 Try.zeroValue47) (fun g1375 _ => ?_)
    refine g_storeL (tag := 100120) rfl rfl rfl rfl Try.sizeOf47 rfl rfl <| g_nil <| d_then ?_
    refine c_flat [(0, .slice Ap0_0 p0.length cp0_0), (5, .bool x2), (7, .int .i64 i1019), (9, .pointer (some ⟨g30, 0, none⟩)), (10, .pointer (some ⟨g31, 0, none⟩)), (11, .int .i64 i1020), (12, .pointer (some ⟨g1375, 0, none⟩))] ⟨rfl, rfl, rfl, rfl, rfl, rfl, rfl, trivial⟩ (fun u => ?_)
    refine c_sta ⟨w0, M, (100120, g1375, .cells #[.int .i64 x1371.fKind, .int .i64 x1371.fA, .int .i64 x1371.fB, .int .i64 x1371.fPick, .int .i64 x1371.fTimeout] 47 (0, 0)) :: (100100, g31, .cells (l1021.map (fun x : Int => Value.int .i64 x)).toArray 45 (0, 0)) :: (100090, g30, .cells #[.int .i64 i1022, .int .i64 i1023, .int .i64 i1024, .int .i64 i1025, .int .i64 i1026, .int .i64 i1027, .int .i64 i1028, .slice A1030 l1029.length c1031, .string s1033, .int .i64 i1034, .int .i64 i1035, .slice A1037 l1036.length c1038, .slice A1041 l1040.length c1042, .slice A1045 l1044.length c1046] 43 (0, 0)) :: H, R, φ1368⟩ (fun _ h => h) <| c_seq ?_
    refine c_cut (ι := Int × Int × Int × Int × Int × Int × Int × (List Int) × ByteArray × Int × Int × (List GEntry) × (List Int) × (List GMark) × Option Addr × Nat × Option Addr × Nat × Option Addr × Nat × Option Addr × Nat) [0, 5, 7, 9, 10, 11, 12] (fun ⟨i1394, i1395, i1396, i1397, i1398, i1399, i1400, l1401, s1405, i1406, i1407, l1408, l1412, l1416, A1402, c1403, A1409, c1410, A1413, c1414, A1417, c1418⟩ => []) (fun ⟨i1394, i1395, i1396, i1397, i1398, i1399, i1400, l1401, s1405, i1406, i1407, l1408, l1412, l1416, A1402, c1403, A1409, c1410, A1413, c1414, A1417, c1418⟩ => ⟨w0, M, (100120, g1375, .cells #[.int .i64 x1371.fKind, .int .i64 x1371.fA, .int .i64 x1371.fB, .int .i64 x1371.fPick, .int .i64 x1371.fTimeout] 47 (0, 0)) :: (100100, g31, .cells (l1021.map (fun x : Int => Value.int .i64 x)).toArray 45 (0, 0)) :: (100090, g30, .cells #[.int .i64 i1394, .int .i64 i1395, .int .i64 i1396, .int .i64 i1397, .int .i64 i1398, .int .i64 i1399, .int .i64 i1400, .slice A1402 l1401.length c1403, .string s1405, .int .i64 i1406, .int .i64 i1407, .slice A1409 l1408.length c1410, .slice A1413 l1412.length c1414, .slice A1417 l1416.length c1418] 43 (0, 0)) :: H, R, fun W => φ1368 W ∧ Cl W A1402 (l1401.flatMap (fun x : Int => [Value.int .i64 x])) ∧ Cl W A1409 (l1408.flatMap GEntry.enc) ∧ Cl W A1413 (l1412.flatMap (fun x : Int => [Value.int .i64 x])) ∧ Cl W A1417 (l1416.flatMap GMark.enc)⟩) (fun ⟨i1394, i1395, i1396, i1397, i1398, i1399, i1400, l1401, s1405, i1406, i1407, l1408, l1412, l1416, A1402, c1403, A1409, c1410, A1413, c1414, A1417, c1418⟩ => m_law12_RaftVotes_j3 x1371 i1019 l1021 i1020 i1394 i1395 i1396 i1397 i1398 i1399 i1400 l1401 s1405 i1406 i1407 l1408 l1412 l1416 = some o2 ∧ l1401.length ≤ c1403 ∧ l1408.length ≤ c1410 ∧ l1412.length ≤ c1414 ∧ l1416.length ≤ c1418) ?_ (fun ⟨i1394, i1395, i1396, i1397, i1398, i1399, i1400, l1401, s1405, i1406, i1407, l1408, l1412, l1416, A1402, c1403, A1409, c1410, A1413, c1414, A1417, c1418⟩ u ⟨hm, hc1403, hc1410, hc1414, hc1418⟩ => ?_)
    ·
     refine c_seq <| c_region <| g_v rfl (r_field (n := 0) Try.underlying47 rfl Try.sizeOf3 rfl rfl) <| g_v rfl (r_load (tag := 100120) rfl rfl rfl Try.isAgg3) ?_
     replace hm := bnd hm
     obtain ⟨x1715, hx1716, hm⟩ := hm
     refine g_cn ⟨w0, M, _, _, φ1368⟩ (fun _ h => h) Try.call15 rfl rfl (c_law12_pick x1371.fKind 5 _ hx1716) (fun _ _ => ?_)
     refine g_v rfl (r_eql rfl rfl) <| g_nil <| d_then ?_
     refine c_cond rfl (fun h1717 => ?_) (fun h1717 => ?_)
     ·
      replace hm := ite_t hm (of_decide_eq_true h1717)
      refine c_region <| g_v rfl (r_field (n := 5) Try.underlying43 rfl Try.sizeOf40 rfl rfl) <| g_v rfl (r_loadA (tag := 100090) rfl rfl Try.isAgg40 Try.sizeOf40 rfl rfl) <| g_v rfl (r_field (n := 3) Try.underlying43 rfl Try.sizeOf3 rfl rfl) <| g_v rfl (r_load (tag := 100090) rfl rfl rfl Try.isAgg3) ?_
      replace hm := bnd hm
      obtain ⟨x1718, hx1719, hm⟩ := hm
      refine g_cn ⟨w0, M, _, _, φ1368⟩ (fun _ h => h) Try.call16 rfl rfl (c_raft_New 0 (⟨i1027, i1028, l1029, s1033, (⟨i1034, i1035, l1036⟩ : GLog)⟩ : GHard) A1030 c1031 hc1031 (fun W h => f1032 W h) A1037 c1038 hc1038 (fun W h => f1039 W h) i1025 _ hx1719) (fun ⟨A1720, c1721, A1723, c1724, A1726, c1727, A1729, c1730⟩ ⟨hc1721, hc1724, hc1727, hc1730⟩ => ?_)
      refine g_abs (fun φ1732 q1732' => ?_)
      have q1732 : ∀ W, φ1732 W → φ1368 W := fun W h => (q1732' W h).1
      have f1722 := fun (W : World) (h : φ1732 W) => (q1732' W h).2.1
      have f1725 := fun (W : World) (h : φ1732 W) => (q1732' W h).2.2.1
      have f1728 := fun (W : World) (h : φ1732 W) => (q1732' W h).2.2.2.1
      have f1731 := fun (W : World) (h : φ1732 W) => (q1732' W h).2.2.2.2
      refine g_storeL (tag := 100090) rfl rfl rfl rfl Try.sizeOf43 rfl rfl <| g_nil ?_
      exact d_round (x1718.fMe, x1718.fRole, x1718.fLeader, x1718.fCommit, x1718.fLeft, x1718.fHard.fTerm, x1718.fHard.fVote, x1718.fHard.fVoters, x1718.fHard.fSnap, x1718.fHard.fLog.fBase, x1718.fHard.fLog.fBaseTerm, x1718.fHard.fLog.fEntries, x1718.fVotes, x1718.fMarks, A1720, c1721, A1723, c1724, A1726, c1727, A1729, c1730) ⟨hm, hc1721, hc1724, hc1727, hc1730⟩ Nat.zero_lt_one ⟨rfl, rfl, rfl, rfl, rfl, rfl, rfl, trivial⟩ (fun W h => h.phi (fun W hφ => ⟨(q1732 _ hφ), (fun W h => f1722 W h) W hφ, (fun W h => f1725 W h) W hφ, (fun W h => f1728 W h) W hφ, (fun W h => f1731 W h) W hφ⟩))
     replace hm := ite_f hm (of_decide_eq_false h1717)
     refine c_skip ?_
     exact d_round (i1022, i1023, i1024, i1025, i1026, i1027, i1028, l1029, s1033, i1034, i1035, l1036, l1040, l1044, A1030, c1031, A1037, c1038, A1041, c1042, A1045, c1046) ⟨hm, hc1031, hc1038, hc1042, hc1046⟩ Nat.zero_lt_one ⟨rfl, rfl, rfl, rfl, rfl, rfl, rfl, trivial⟩ (fun W h => h.phi (fun W hφ => ⟨hφ, (fun W h => f1032 W h) W hφ, (fun W h => f1039 W h) W hφ, (fun W h => f1043 W h) W hφ, (fun W h => f1047 W h) W hφ⟩))
    unfold m_law12_RaftVotes_j3 at hm
    refine d_abs (fun φ1420 q1420' => ?_)
    have q1420 : ∀ W, φ1420 W → φ1368 W := fun W h => (q1420' W h).1
    have f1404 := fun (W : World) (h : φ1420 W) => (q1420' W h).2.1
    have f1411 := fun (W : World) (h : φ1420 W) => (q1420' W h).2.2.1
    have f1415 := fun (W : World) (h : φ1420 W) => (q1420' W h).2.2.2.1
    have f1419 := fun (W : World) (h : φ1420 W) => (q1420' W h).2.2.2.2
    refine d_flat [(0, .slice Ap0_0 p0.length cp0_0), (5, .bool x2), (7, .int .i64 i1019), (9, .pointer (some ⟨g30, 0, none⟩)), (10, .pointer (some ⟨g31, 0, none⟩)), (11, .int .i64 i1020), (12, .pointer (some ⟨g1375, 0, none⟩))] ⟨rfl, rfl, rfl, rfl, rfl, rfl, rfl, trivial⟩ (fun u => ?_)
    refine d_sta ⟨w0, M, (100120, g1375, .cells #[.int .i64 x1371.fKind, .int .i64 x1371.fA, .int .i64 x1371.fB, .int .i64 x1371.fPick, .int .i64 x1371.fTimeout] 47 (0, 0)) :: (100100, g31, .cells (l1021.map (fun x : Int => Value.int .i64 x)).toArray 45 (0, 0)) :: (100090, g30, .cells #[.int .i64 i1394, .int .i64 i1395, .int .i64 i1396, .int .i64 i1397, .int .i64 i1398, .int .i64 i1399, .int .i64 i1400, .slice A1402 l1401.length c1403, .string s1405, .int .i64 i1406, .int .i64 i1407, .slice A1409 l1408.length c1410, .slice A1413 l1412.length c1414, .slice A1417 l1416.length c1418] 43 (0, 0)) :: H, R, φ1420⟩ (fun _ h => h) <| d_then <| c_seq ?_
    refine c_cut (ι := Int × Int × Int × Nat) [0, 5, 7, 9, 10, 11, 12, 13] (fun ⟨i1507, i1508, i1509, g1506⟩ => [(13, .pointer (some ⟨g1506, 0, none⟩))]) (fun ⟨i1507, i1508, i1509, g1506⟩ => ⟨w0, M, (100130, g1506, .cells #[.int .i64 1, .int .i64 i1507, .int .i64 0, .int .i64 i1508, .int .i64 i1509, .int .i64 0, .int .i64 0, .bool false, .slice none 0 0, .slice none 0 0, .string (⟨#[]⟩ : ByteArray)] 25 (0, 0)) :: (100120, g1375, .cells #[.int .i64 x1371.fKind, .int .i64 x1371.fA, .int .i64 x1371.fB, .int .i64 x1371.fPick, .int .i64 x1371.fTimeout] 47 (0, 0)) :: (100100, g31, .cells (l1021.map (fun x : Int => Value.int .i64 x)).toArray 45 (0, 0)) :: (100090, g30, .cells #[.int .i64 i1394, .int .i64 i1395, .int .i64 i1396, .int .i64 i1397, .int .i64 i1398, .int .i64 i1399, .int .i64 i1400, .slice A1402 l1401.length c1403, .string s1405, .int .i64 i1406, .int .i64 i1407, .slice A1409 l1408.length c1410, .slice A1413 l1412.length c1414, .slice A1417 l1416.length c1418] 43 (0, 0)) :: H, R, φ1420⟩) (fun ⟨i1507, i1508, i1509, g1506⟩ => m_law12_RaftVotes_j4 x1371 i1394 i1395 i1396 i1397 i1398 i1399 i1400 l1401 s1405 i1406 i1407 l1408 l1412 l1416 i1019 l1021 i1020 i1507 i1508 i1509 = some o2) ?_ (fun ⟨i1507, i1508, i1509, g1506⟩ u hm => ?_)
    ·
     refine ga_start (n := 14) ⟨w0, M, (100120, g1375, .cells #[.int .i64 x1371.fKind, .int .i64 x1371.fA, .int .i64 x1371.fB, .int .i64 x1371.fPick, .int .i64 x1371.fTimeout] 47 (0, 0)) :: (100100, g31, .cells (l1021.map (fun x : Int => Value.int .i64 x)).toArray 45 (0, 0)) :: (100090, g30, .cells #[.int .i64 i1394, .int .i64 i1395, .int .i64 i1396, .int .i64 i1397, .int .i64 i1398, .int .i64 i1399, .int .i64 i1400, .slice A1402 l1401.length c1403, .string s1405, .int .i64 i1406, .int .i64 i1407, .slice A1409 l1408.length c1410, .slice A1413 l1412.length c1414, .slice A1417 l1416.length c1418] 43 (0, 0)) :: H, R, φ1420⟩ [13] #[false, false, false, false, false, false, false, false, false, false, false, false, false, false] (fun W h => h.phi (fun W hφ => hφ)) mixed rfl rfl <| ga_v (i := 0) (bz 14 1) rfl (by kernel_rfl) (fun _ _ _ _ h => h) rfl (r_field (n := 1) Try.underlying47 rfl Try.sizeOf3 rfl rfl) <| ga_v (i := 1) (bz 14 3) rfl (by kernel_rfl) (fun _ _ _ _ h => h) rfl (r_load (tag := 100120) rfl rfl rfl Try.isAgg3) <| ga_v (i := 4) (bz 14 19) rfl (by kernel_rfl) (fun _ _ _ _ h => h) rfl (r_field (n := 3) Try.underlying47 rfl Try.sizeOf3 rfl rfl) <| ga_v (i := 5) (bz 14 51) rfl (by kernel_rfl) (fun _ _ _ _ h => h) rfl (r_load (tag := 100120) rfl rfl rfl Try.isAgg3) <| ga_v (i := 8) (bz 14 307) rfl (by kernel_rfl) (fun _ _ _ _ h => h) rfl (r_field (n := 2) Try.underlying47 rfl Try.sizeOf3 rfl rfl) <| ga_v (i := 9) (bz 14 819) rfl (by kernel_rfl) (fun _ _ _ _ h => h) rfl (r_load (tag := 100120) rfl rfl rfl Try.isAgg3) ?_
     replace hm := bnd hm
     obtain ⟨x1698, hx1699, hm⟩ := hm
     refine ga_two (i := 2) (j := 12) (bz 14 823) (bz 14 4915) rfl rfl (by kernel_rfl) (by decide) (by decide) ?_ ?_
     ·
      refine ex_cn (first := #[]) ⟨w0, M, _, _, φ1420⟩ (fun _ h => h) Try.call15 rfl rfl rfl (c_law12_pick x1371.fA 4 _ hx1699) (fun _ W _ h => h.phi (fun W hφ => hφ)) (fun _ _ => ?_)
      refine ga_v (i := 3) (bz 14 831) rfl (by kernel_rfl) (fun _ _ _ _ h => h) rfl (r_add rfl rfl rfl) ?_
      replace hm := bnd hm
      obtain ⟨x1701, hx1702, hm⟩ := hm
      refine ga_two (i := 6) (j := 12) (bz 14 895) (bz 14 4927) rfl rfl (by kernel_rfl) (by decide) (by decide) ?_ ?_
      ·
       refine ex_cn (first := #[]) ⟨w0, M, _, _, φ1420⟩ (fun _ h => h) Try.call15 rfl rfl rfl (c_law12_pick x1371.fPick 6 _ hx1702) (fun _ W _ h => h.phi (fun W hφ => hφ)) (fun _ _ => ?_)
       refine ga_v (i := 7) (bz 14 1023) rfl (by kernel_rfl) (fun _ _ _ _ h => h) rfl (r_add rfl rfl rfl) ?_
       replace hm := bnd hm
       obtain ⟨x1703, hx1704, hm⟩ := hm
       refine ga_two (i := 10) (j := 12) (bz 14 2047) (bz 14 5119) rfl rfl (by kernel_rfl) (by decide) (by decide) ?_ ?_
       ·
        refine ex_cn (first := #[]) ⟨w0, M, _, _, φ1420⟩ (fun _ h => h) Try.call15 rfl rfl rfl (c_law12_pick x1371.fB 4 _ hx1704) (fun _ W _ h => h.phi (fun W hφ => hφ)) (fun _ _ => ?_)
        refine ga_v (i := 11) (bz 14 4095) rfl (by kernel_rfl) (fun _ _ _ _ h => h) rfl (r_build _ rfl (bld25_29 _ _ _ _ _)) ?_
        refine ga_e (i := 12) (bz 14 8191) rfl (by kernel_rfl) (by decide) rfl  (e_alloc 100130 Try.zeroValue25) (fun g1705 W _ h => (h.dropH (t := 100130) rfl).phi (fun W hφ => hφ)) (fun g1705 _ => ?_)
        refine ga_lastL (i := 13) (tag := 100130) (bz 14 16383) rfl (by kernel_rfl) (by decide) rfl rfl rfl rfl Try.sizeOf25 rfl rfl <| gz_done (by kernel_rfl) ?_
        exact d_round (w64 (1 + x1698), w64 (1 + x1701), x1703, g1705) hm Nat.zero_lt_one ⟨rfl, rfl, rfl, rfl, rfl, rfl, rfl, rfl, trivial⟩ (fun W h => h.phi (fun W hφ => hφ))
       refine ex_e rfl (e_alloc 100130 Try.zeroValue25) (fun g1706 W _ h => (h.dropH (t := 100130) rfl).phi (fun W hφ => hφ)) (fun g1706 _ => ?_)
       refine ga_cn (first := #[]) (i := 10) (bz 14 6143) rfl (by kernel_rfl) (by decide)  ⟨w0, M, _, _, φ1420⟩ (fun _ h => h) Try.call15 rfl rfl rfl (c_law12_pick x1371.fB 4 _ hx1704) (fun _ W _ h => (h.dropH (t := 100130) rfl).phi (fun W hφ => hφ)) (fun _ _ => ?_)
       refine ga_r (i := 11) (bz 14 8191) rfl (by kernel_rfl) (by decide) rfl (r_build _ rfl (bld25_29 _ _ _ _ _)) <| ga_lastL (i := 13) (tag := 100130) (bz 14 16383) rfl (by kernel_rfl) (by decide) rfl rfl rfl rfl Try.sizeOf25 rfl rfl <| gz_done (by kernel_rfl) ?_
       exact d_round (w64 (1 + x1698), w64 (1 + x1701), x1703, g1706) hm Nat.zero_lt_one ⟨rfl, rfl, rfl, rfl, rfl, rfl, rfl, rfl, trivial⟩ (fun W h => h.phi (fun W hφ => hφ))
      refine ex_e rfl (e_alloc 100130 Try.zeroValue25) (fun g1707 W _ h => (h.dropH (t := 100130) rfl).phi (fun W hφ => hφ)) (fun g1707 _ => ?_)
      refine ga_cn (first := #[]) (i := 6) (bz 14 4991) rfl (by kernel_rfl) (by decide)  ⟨w0, M, _, _, φ1420⟩ (fun _ h => h) Try.call15 rfl rfl rfl (c_law12_pick x1371.fPick 6 _ hx1702) (fun _ W _ h => (h.dropH (t := 100130) rfl).phi (fun W hφ => hφ)) (fun _ _ => ?_)
      refine ga_v (i := 7) (bz 14 5119) rfl (by kernel_rfl) (fun _ _ _ _ h => h) rfl (r_add rfl rfl rfl) ?_
      replace hm := bnd hm
      obtain ⟨x1708, hx1709, hm⟩ := hm
      refine ga_cn (first := #[]) (i := 10) (bz 14 6143) rfl (by kernel_rfl) (by decide)  ⟨w0, M, _, _, φ1420⟩ (fun _ h => h) Try.call15 rfl rfl rfl (c_law12_pick x1371.fB 4 _ hx1709) (fun _ W _ h => (h.dropH (t := 100130) rfl).phi (fun W hφ => hφ)) (fun _ _ => ?_)
      refine ga_r (i := 11) (bz 14 8191) rfl (by kernel_rfl) (by decide) rfl (r_build _ rfl (bld25_29 _ _ _ _ _)) <| ga_lastL (i := 13) (tag := 100130) (bz 14 16383) rfl (by kernel_rfl) (by decide) rfl rfl rfl rfl Try.sizeOf25 rfl rfl <| gz_done (by kernel_rfl) ?_
      exact d_round (w64 (1 + x1698), w64 (1 + x1701), x1708, g1707) hm Nat.zero_lt_one ⟨rfl, rfl, rfl, rfl, rfl, rfl, rfl, rfl, trivial⟩ (fun W h => h.phi (fun W hφ => hφ))
     refine ex_e rfl (e_alloc 100130 Try.zeroValue25) (fun g1710 W _ h => (h.dropH (t := 100130) rfl).phi (fun W hφ => hφ)) (fun g1710 _ => ?_)
     refine ga_cn (first := #[]) (i := 2) (bz 14 4919) rfl (by kernel_rfl) (by decide)  ⟨w0, M, _, _, φ1420⟩ (fun _ h => h) Try.call15 rfl rfl rfl (c_law12_pick x1371.fA 4 _ hx1699) (fun _ W _ h => (h.dropH (t := 100130) rfl).phi (fun W hφ => hφ)) (fun _ _ => ?_)
     refine ga_v (i := 3) (bz 14 4927) rfl (by kernel_rfl) (fun _ _ _ _ h => h) rfl (r_add rfl rfl rfl) ?_
     replace hm := bnd hm
     obtain ⟨x1711, hx1712, hm⟩ := hm
     refine ga_cn (first := #[]) (i := 6) (bz 14 4991) rfl (by kernel_rfl) (by decide)  ⟨w0, M, _, _, φ1420⟩ (fun _ h => h) Try.call15 rfl rfl rfl (c_law12_pick x1371.fPick 6 _ hx1712) (fun _ W _ h => (h.dropH (t := 100130) rfl).phi (fun W hφ => hφ)) (fun _ _ => ?_)
     refine ga_v (i := 7) (bz 14 5119) rfl (by kernel_rfl) (fun _ _ _ _ h => h) rfl (r_add rfl rfl rfl) ?_
     replace hm := bnd hm
     obtain ⟨x1713, hx1714, hm⟩ := hm
     refine ga_cn (first := #[]) (i := 10) (bz 14 6143) rfl (by kernel_rfl) (by decide)  ⟨w0, M, _, _, φ1420⟩ (fun _ h => h) Try.call15 rfl rfl rfl (c_law12_pick x1371.fB 4 _ hx1714) (fun _ W _ h => (h.dropH (t := 100130) rfl).phi (fun W hφ => hφ)) (fun _ _ => ?_)
     refine ga_r (i := 11) (bz 14 8191) rfl (by kernel_rfl) (by decide) rfl (r_build _ rfl (bld25_29 _ _ _ _ _)) <| ga_lastL (i := 13) (tag := 100130) (bz 14 16383) rfl (by kernel_rfl) (by decide) rfl rfl rfl rfl Try.sizeOf25 rfl rfl <| gz_done (by kernel_rfl) ?_
     exact d_round (w64 (1 + x1698), w64 (1 + x1711), x1713, g1710) hm Nat.zero_lt_one ⟨rfl, rfl, rfl, rfl, rfl, rfl, rfl, rfl, trivial⟩ (fun W h => h.phi (fun W hφ => hφ))
    unfold m_law12_RaftVotes_j4 at hm
    refine d_flat [(0, .slice Ap0_0 p0.length cp0_0), (5, .bool x2), (7, .int .i64 i1019), (9, .pointer (some ⟨g30, 0, none⟩)), (10, .pointer (some ⟨g31, 0, none⟩)), (11, .int .i64 i1020), (12, .pointer (some ⟨g1375, 0, none⟩)), (13, .pointer (some ⟨g1506, 0, none⟩))] ⟨rfl, rfl, rfl, rfl, rfl, rfl, rfl, rfl, trivial⟩ (fun u => ?_)
    refine d_sta ⟨w0, M, (100130, g1506, .cells #[.int .i64 1, .int .i64 i1507, .int .i64 0, .int .i64 i1508, .int .i64 i1509, .int .i64 0, .int .i64 0, .bool false, .slice none 0 0, .slice none 0 0, .string (⟨#[]⟩ : ByteArray)] 25 (0, 0)) :: (100120, g1375, .cells #[.int .i64 x1371.fKind, .int .i64 x1371.fA, .int .i64 x1371.fB, .int .i64 x1371.fPick, .int .i64 x1371.fTimeout] 47 (0, 0)) :: (100100, g31, .cells (l1021.map (fun x : Int => Value.int .i64 x)).toArray 45 (0, 0)) :: (100090, g30, .cells #[.int .i64 i1394, .int .i64 i1395, .int .i64 i1396, .int .i64 i1397, .int .i64 i1398, .int .i64 i1399, .int .i64 i1400, .slice A1402 l1401.length c1403, .string s1405, .int .i64 i1406, .int .i64 i1407, .slice A1409 l1408.length c1410, .slice A1413 l1412.length c1414, .slice A1417 l1416.length c1418] 43 (0, 0)) :: H, R, φ1420⟩ (fun _ h => h) <| d_then <| c_seq <| c_region <| g_v rfl (r_field (n := 4) Try.underlying47 rfl Try.sizeOf3 rfl rfl) <| g_v rfl (r_load (tag := 100120) rfl rfl rfl Try.isAgg3) <| g_v rfl (r_field (n := 3) Try.underlying25 rfl Try.sizeOf3 rfl rfl) <| g_v rfl (r_load (tag := 100130) rfl rfl rfl Try.isAgg3) <| g_v rfl (r_add rfl rfl rfl) ?_
    replace hm := bnd hm
    obtain ⟨x1510, hx1511, hm⟩ := hm
    refine g_cn ⟨w0, M, _, _, φ1420⟩ (fun _ h => h) Try.call15 rfl rfl (c_law12_pick x1371.fTimeout (w64 (i1508 + 1)) _ hx1511) (fun _ _ => ?_)
    refine g_v rfl (r_field (n := 5) Try.underlying25 rfl Try.sizeOf3 rfl rfl) <| g_storeL (tag := 100130) rfl rfl rfl rfl Try.sizeOf3 rfl rfl <| g_nil <| d_then <| c_seq <| c_region <| g_v rfl (r_loadA (tag := 100090) rfl rfl Try.isAgg43 Try.sizeOf43 rfl rfl) <| g_v rfl (r_loadA (tag := 100130) rfl rfl Try.isAgg25 Try.sizeOf25 rfl rfl) ?_
    replace hm := bnd hm
    obtain ⟨⟨x1512, x1513⟩, hx1514, hm⟩ := hm
    refine g_cn ⟨w0, M, _, _, φ1420⟩ (fun _ h => h) Try.call17 rfl rfl (c_raft_Receive (⟨i1394, i1395, i1396, i1397, i1398, (⟨i1399, i1400, l1401, s1405, (⟨i1406, i1407, l1408⟩ : GLog)⟩ : GHard), l1412, l1416⟩ : GRaft) A1402 c1403 hc1403 (fun W h => f1404 W h) A1409 c1410 hc1410 (fun W h => f1411 W h) A1413 c1414 hc1414 (fun W h => f1415 W h) A1417 c1418 hc1418 (fun W h => f1419 W h) (⟨1, i1507, 0, i1508, i1509, x1510, 0, false, ([] : List GEntry), ([] : List Int), (⟨#[]⟩ : ByteArray)⟩ : GNote) none 0 (Nat.le_refl 0) (fun W _ => Cl.nil _ _) none 0 (Nat.le_refl 0) (fun W _ => Cl.nil _ _) 5 _ hx1514) (fun ⟨A1515, c1516, A1518, c1519, A1521, c1522, A1524, c1525, A1527, c1528, ps1530⟩ ⟨hc1516, hc1519, hc1522, hc1525, hc1528⟩ => ?_)
    refine g_sta _ (fun W h => (ok_frontR (t := 2004) (t' := 100834) h rfl)) ?_
    refine g_abs (fun φ1532 q1532' => ?_)
    have q1532 : ∀ W, φ1532 W → φ1420 W := fun W h => (q1532' W h).1
    have f1517 := fun (W : World) (h : φ1532 W) => (q1532' W h).2.1
    have f1520 := fun (W : World) (h : φ1532 W) => (q1532' W h).2.2.1
    have f1523 := fun (W : World) (h : φ1532 W) => (q1532' W h).2.2.2.1
    have f1526 := fun (W : World) (h : φ1532 W) => (q1532' W h).2.2.2.2.1
    have f1531 := fun (W : World) (h : φ1532 W) => (q1532' W h).2.2.2.2.2
    refine g_v rfl r_move <| g_v rfl (r_extract rfl rfl) <| g_v rfl (r_extract rfl rfl) ?_
    refine g_e rfl (e_alloc 100140 Try.zeroValue43) (fun g1534 _ => ?_)
    refine g_storeL (tag := 100140) rfl rfl rfl rfl Try.sizeOf43 rfl rfl <| g_v rfl r_assign <| g_nil <| d_then ?_
    refine c_flat [(0, .slice Ap0_0 p0.length cp0_0), (5, .bool x2), (7, .int .i64 i1019), (9, .pointer (some ⟨g30, 0, none⟩)), (10, .pointer (some ⟨g31, 0, none⟩)), (11, .int .i64 i1020), (13, .pointer (some ⟨g1506, 0, none⟩)), (14, .pointer (some ⟨g1534, 0, none⟩)), (15, .slice A1527 x1513.length c1528)] ⟨rfl, rfl, rfl, rfl, rfl, rfl, rfl, rfl, rfl, trivial⟩ (fun u => ?_)
    refine c_sta ⟨w0, M, (100140, g1534, .cells #[.int .i64 x1512.fMe, .int .i64 x1512.fRole, .int .i64 x1512.fLeader, .int .i64 x1512.fCommit, .int .i64 x1512.fLeft, .int .i64 x1512.fHard.fTerm, .int .i64 x1512.fHard.fVote, .slice A1515 x1512.fHard.fVoters.length c1516, .string x1512.fHard.fSnap, .int .i64 x1512.fHard.fLog.fBase, .int .i64 x1512.fHard.fLog.fBaseTerm, .slice A1518 x1512.fHard.fLog.fEntries.length c1519, .slice A1521 x1512.fVotes.length c1522, .slice A1524 x1512.fMarks.length c1525] 43 (0, 0)) :: (100130, g1506, .cells #[.int .i64 1, .int .i64 i1507, .int .i64 0, .int .i64 i1508, .int .i64 i1509, .int .i64 x1510, .int .i64 0, .bool false, .slice none 0 0, .slice none 0 0, .string (⟨#[]⟩ : ByteArray)] 25 (0, 0)) :: (100120, g1375, .cells #[.int .i64 x1371.fKind, .int .i64 x1371.fA, .int .i64 x1371.fB, .int .i64 x1371.fPick, .int .i64 x1371.fTimeout] 47 (0, 0)) :: (100100, g31, .cells (l1021.map (fun x : Int => Value.int .i64 x)).toArray 45 (0, 0)) :: (100090, g30, .cells #[.int .i64 i1394, .int .i64 i1395, .int .i64 i1396, .int .i64 i1397, .int .i64 i1398, .int .i64 i1399, .int .i64 i1400, .slice A1402 l1401.length c1403, .string s1405, .int .i64 i1406, .int .i64 i1407, .slice A1409 l1408.length c1410, .slice A1413 l1412.length c1414, .slice A1417 l1416.length c1418] 43 (0, 0)) :: H, (100834, ⟨.slice A1527 x1513.length c1528, 25, 11, x1513.length, (x1513.zip ps1530).flatMap GNote.encP⟩) :: R, φ1532⟩ (fun _ h => h) <| c_seq <| c_region <| g_v rfl (r_loadA (tag := 100140) rfl rfl Try.isAgg43 Try.sizeOf43 rfl rfl) <| g_storeL (tag := 100090) rfl rfl rfl rfl Try.sizeOf43 rfl rfl <| g_nil <| d_then <| c_seq <| c_seq <| ga_start (n := 19) ⟨w0, M, (100140, g1534, .cells #[.int .i64 x1512.fMe, .int .i64 x1512.fRole, .int .i64 x1512.fLeader, .int .i64 x1512.fCommit, .int .i64 x1512.fLeft, .int .i64 x1512.fHard.fTerm, .int .i64 x1512.fHard.fVote, .slice A1515 x1512.fHard.fVoters.length c1516, .string x1512.fHard.fSnap, .int .i64 x1512.fHard.fLog.fBase, .int .i64 x1512.fHard.fLog.fBaseTerm, .slice A1518 x1512.fHard.fLog.fEntries.length c1519, .slice A1521 x1512.fVotes.length c1522, .slice A1524 x1512.fMarks.length c1525] 43 (0, 0)) :: (100130, g1506, .cells #[.int .i64 1, .int .i64 i1507, .int .i64 0, .int .i64 i1508, .int .i64 i1509, .int .i64 x1510, .int .i64 0, .bool false, .slice none 0 0, .slice none 0 0, .string (⟨#[]⟩ : ByteArray)] 25 (0, 0)) :: (100120, g1375, .cells #[.int .i64 x1371.fKind, .int .i64 x1371.fA, .int .i64 x1371.fB, .int .i64 x1371.fPick, .int .i64 x1371.fTimeout] 47 (0, 0)) :: (100100, g31, .cells (l1021.map (fun x : Int => Value.int .i64 x)).toArray 45 (0, 0)) :: (100090, g30, .cells #[.int .i64 x1512.fMe, .int .i64 x1512.fRole, .int .i64 x1512.fLeader, .int .i64 x1512.fCommit, .int .i64 x1512.fLeft, .int .i64 x1512.fHard.fTerm, .int .i64 x1512.fHard.fVote, .slice A1515 x1512.fHard.fVoters.length c1516, .string x1512.fHard.fSnap, .int .i64 x1512.fHard.fLog.fBase, .int .i64 x1512.fHard.fLog.fBaseTerm, .slice A1518 x1512.fHard.fLog.fEntries.length c1519, .slice A1521 x1512.fVotes.length c1522, .slice A1524 x1512.fMarks.length c1525] 43 (0, 0)) :: H, (100834, ⟨.slice A1527 x1513.length c1528, 25, 11, x1513.length, (x1513.zip ps1530).flatMap GNote.encP⟩) :: R, φ1532⟩ [] #[false, false, false, false, false, false, false, false, false, false, false, false, false, false, false, false, false, false, false] (fun W h => h.phi (fun W hφ => hφ)) mixed rfl rfl ?_
    refine ga_r (i := 0) (bz 19 1) rfl (by kernel_rfl) (by decide) rfl (r_move) <| ga_r (i := 1) (bz 19 3) rfl (by kernel_rfl) (by decide) rfl (r_lenL Try.underlying48 rfl) <| ga_r (i := 2) (bz 19 7) rfl (by kernel_rfl) (by decide) rfl (r_neq rfl rfl) <| ga_r (i := 3) (bz 19 15) rfl (by kernel_rfl) (by decide) rfl (r_move) ?_
    refine ga_if (t := 90) rfl (fun h1583 => ?_) (fun h1583 => ?_)
    ·
     replace hm := ite_t hm (of_decide_eq_true h1583)
     refine ga_no (i := 4) (bz 19 31) rfl (by kernel_rfl) (fun _ _ _ _ h => h) rfl rfl rfl rfl rfl h1583 <| ga_no (i := 5) (bz 19 63) rfl (by kernel_rfl) (fun _ _ _ _ h => h) rfl rfl rfl rfl rfl h1583 <| ga_no (i := 6) (bz 19 127) rfl (by kernel_rfl) (fun _ _ _ _ h => h) rfl rfl rfl rfl rfl h1583 <| ga_no (i := 7) (bz 19 255) rfl (by kernel_rfl) (fun _ _ _ _ h => h) rfl rfl rfl rfl rfl h1583 <| ga_no (i := 8) (bz 19 511) rfl (by kernel_rfl) (fun _ _ _ _ h => h) rfl rfl rfl rfl rfl h1583 <| ga_r (i := 9) (bz 19 1023) rfl (by kernel_rfl) (by decide) rfl (r_pick1 rfl h1583) <| ga_r (i := 10) (bz 19 2047) rfl (by kernel_rfl) (by decide) rfl (r_move) <| ga_no (i := 11) (bz 19 4095) rfl (by kernel_rfl) (fun _ _ _ _ h => h) rfl rfl rfl rfl rfl rfl <| ga_no (i := 12) (bz 19 8191) rfl (by kernel_rfl) (fun _ _ _ _ h => h) rfl rfl rfl rfl rfl rfl <| ga_no (i := 13) (bz 19 16383) rfl (by kernel_rfl) (fun _ _ _ _ h => h) rfl rfl rfl rfl rfl rfl ?_
     refine ga_no (i := 14) (bz 19 32767) rfl (by kernel_rfl) (fun _ _ _ _ h => h) rfl rfl rfl rfl rfl rfl <| ga_no (i := 15) (bz 19 65535) rfl (by kernel_rfl) (fun _ _ _ _ h => h) rfl rfl rfl rfl rfl rfl <| ga_no (i := 16) (bz 19 131071) rfl (by kernel_rfl) (fun _ _ _ _ h => h) rfl rfl rfl rfl rfl rfl <| ga_no (i := 17) (bz 19 262143) rfl (by kernel_rfl) (fun _ _ _ _ h => h) rfl rfl rfl rfl rfl rfl <| ga_r (i := 18) (bz 19 524287) rfl (by kernel_rfl) (by decide) rfl (r_pick1 rfl rfl) <| ga_done (by kernel_rfl) <| d_then ?_
     refine c_flat [(0, .slice Ap0_0 p0.length cp0_0), (5, .bool x2), (7, .int .i64 i1019), (9, .pointer (some ⟨g30, 0, none⟩)), (10, .pointer (some ⟨g31, 0, none⟩)), (11, .int .i64 i1020), (13, .pointer (some ⟨g1506, 0, none⟩)), (15, .slice A1527 x1513.length c1528), (105, .bool true)] ⟨rfl, rfl, rfl, rfl, rfl, rfl, rfl, rfl, rfl, trivial⟩ (fun u => ?_)
     refine c_sta ⟨w0, M, (100140, g1534, .cells #[.int .i64 x1512.fMe, .int .i64 x1512.fRole, .int .i64 x1512.fLeader, .int .i64 x1512.fCommit, .int .i64 x1512.fLeft, .int .i64 x1512.fHard.fTerm, .int .i64 x1512.fHard.fVote, .slice A1515 x1512.fHard.fVoters.length c1516, .string x1512.fHard.fSnap, .int .i64 x1512.fHard.fLog.fBase, .int .i64 x1512.fHard.fLog.fBaseTerm, .slice A1518 x1512.fHard.fLog.fEntries.length c1519, .slice A1521 x1512.fVotes.length c1522, .slice A1524 x1512.fMarks.length c1525] 43 (0, 0)) :: (100130, g1506, .cells #[.int .i64 1, .int .i64 i1507, .int .i64 0, .int .i64 i1508, .int .i64 i1509, .int .i64 x1510, .int .i64 0, .bool false, .slice none 0 0, .slice none 0 0, .string (⟨#[]⟩ : ByteArray)] 25 (0, 0)) :: (100120, g1375, .cells #[.int .i64 x1371.fKind, .int .i64 x1371.fA, .int .i64 x1371.fB, .int .i64 x1371.fPick, .int .i64 x1371.fTimeout] 47 (0, 0)) :: (100100, g31, .cells (l1021.map (fun x : Int => Value.int .i64 x)).toArray 45 (0, 0)) :: (100090, g30, .cells #[.int .i64 x1512.fMe, .int .i64 x1512.fRole, .int .i64 x1512.fLeader, .int .i64 x1512.fCommit, .int .i64 x1512.fLeft, .int .i64 x1512.fHard.fTerm, .int .i64 x1512.fHard.fVote, .slice A1515 x1512.fHard.fVoters.length c1516, .string x1512.fHard.fSnap, .int .i64 x1512.fHard.fLog.fBase, .int .i64 x1512.fHard.fLog.fBaseTerm, .slice A1518 x1512.fHard.fLog.fEntries.length c1519, .slice A1521 x1512.fVotes.length c1522, .slice A1524 x1512.fMarks.length c1525] 43 (0, 0)) :: H, (100834, ⟨.slice A1527 x1513.length c1528, 25, 11, x1513.length, (x1513.zip ps1530).flatMap GNote.encP⟩) :: R, φ1532⟩ (fun _ h => h) <| c_cond1 rfl rfl <| c_seq <| c_region <| g_v rfl r_assign <| g_nil <| d_then <| c_ret <| d_ret_then <| d_ret_block ?_
     refine d_ret_then <| d_ret_then <| d_ret_block <| d_ret_then <| d_ret_then ?_
     replace hm := nx_out (C := (fun e : Unit ⊕ Bool => Sum.elim (fun e => m_law12_RaftVotes_j1 x2) (fun x => some x) e = some r)) hm hnx2 hr2
     replace hm : some false = some r := hm
     cases hm
     exact d_retC () Try.results4 (res_tmp (res_nil rfl)) trivial (fun W h => ok_pre (H1 := [_, _, _, _, _]) (R1 := [_]) h (fun W hφ => (q11 _ (q13 _ (q29 _ (q1368 _ (q1420 _ (q1532 _ hφ)))))))) (.inr rfl)
    replace hm := ite_f hm (of_decide_eq_false h1583)
    refine ga_rG (i := 4) (bz 19 31) rfl (by kernel_rfl) (by decide) rfl rfl rfl rfl rfl h1583 (r_move) ?_
    replace hm := bnd hm
    obtain ⟨x1584, hx1584, hm⟩ := hm
    obtain ⟨pp1588, hv1589, hz1590, hcp1591⟩ := DOk.at_ hc1528.1 hx1584
    refine ga_know _ (fun W hS => cl_at (p := (Sta.ok ⟨w0, M, (100140, g1534, .cells #[.int .i64 x1512.fMe, .int .i64 x1512.fRole, .int .i64 x1512.fLeader, .int .i64 x1512.fCommit, .int .i64 x1512.fLeft, .int .i64 x1512.fHard.fTerm, .int .i64 x1512.fHard.fVote, .slice A1515 x1512.fHard.fVoters.length c1516, .string x1512.fHard.fSnap, .int .i64 x1512.fHard.fLog.fBase, .int .i64 x1512.fHard.fLog.fBaseTerm, .slice A1518 x1512.fHard.fLog.fEntries.length c1519, .slice A1521 x1512.fVotes.length c1522, .slice A1524 x1512.fMarks.length c1525] 43 (0, 0)) :: (100130, g1506, .cells #[.int .i64 1, .int .i64 i1507, .int .i64 0, .int .i64 i1508, .int .i64 i1509, .int .i64 x1510, .int .i64 0, .bool false, .slice none 0 0, .slice none 0 0, .string (⟨#[]⟩ : ByteArray)] 25 (0, 0)) :: (100120, g1375, .cells #[.int .i64 x1371.fKind, .int .i64 x1371.fA, .int .i64 x1371.fB, .int .i64 x1371.fPick, .int .i64 x1371.fTimeout] 47 (0, 0)) :: (100100, g31, .cells (l1021.map (fun x : Int => Value.int .i64 x)).toArray 45 (0, 0)) :: (100090, g30, .cells #[.int .i64 x1512.fMe, .int .i64 x1512.fRole, .int .i64 x1512.fLeader, .int .i64 x1512.fCommit, .int .i64 x1512.fLeft, .int .i64 x1512.fHard.fTerm, .int .i64 x1512.fHard.fVote, .slice A1515 x1512.fHard.fVoters.length c1516, .string x1512.fHard.fSnap, .int .i64 x1512.fHard.fLog.fBase, .int .i64 x1512.fHard.fLog.fBaseTerm, .slice A1518 x1512.fHard.fLog.fEntries.length c1519, .slice A1521 x1512.fVotes.length c1522, .slice A1524 x1512.fMarks.length c1525] 43 (0, 0)) :: H, (100834, ⟨.slice A1527 x1513.length c1528, 25, 11, x1513.length, (x1513.zip ps1530).flatMap GNote.encP⟩) :: R, φ1532⟩)) (sz := 11) (fun _ => rfl) (by decide) hS (fun W hS => rowCl (S := ⟨w0, M, (100140, g1534, .cells #[.int .i64 x1512.fMe, .int .i64 x1512.fRole, .int .i64 x1512.fLeader, .int .i64 x1512.fCommit, .int .i64 x1512.fLeft, .int .i64 x1512.fHard.fTerm, .int .i64 x1512.fHard.fVote, .slice A1515 x1512.fHard.fVoters.length c1516, .string x1512.fHard.fSnap, .int .i64 x1512.fHard.fLog.fBase, .int .i64 x1512.fHard.fLog.fBaseTerm, .slice A1518 x1512.fHard.fLog.fEntries.length c1519, .slice A1521 x1512.fVotes.length c1522, .slice A1524 x1512.fMarks.length c1525] 43 (0, 0)) :: (100130, g1506, .cells #[.int .i64 1, .int .i64 i1507, .int .i64 0, .int .i64 i1508, .int .i64 i1509, .int .i64 x1510, .int .i64 0, .bool false, .slice none 0 0, .slice none 0 0, .string (⟨#[]⟩ : ByteArray)] 25 (0, 0)) :: (100120, g1375, .cells #[.int .i64 x1371.fKind, .int .i64 x1371.fA, .int .i64 x1371.fB, .int .i64 x1371.fPick, .int .i64 x1371.fTimeout] 47 (0, 0)) :: (100100, g31, .cells (l1021.map (fun x : Int => Value.int .i64 x)).toArray 45 (0, 0)) :: (100090, g30, .cells #[.int .i64 x1512.fMe, .int .i64 x1512.fRole, .int .i64 x1512.fLeader, .int .i64 x1512.fCommit, .int .i64 x1512.fLeft, .int .i64 x1512.fHard.fTerm, .int .i64 x1512.fHard.fVote, .slice A1515 x1512.fHard.fVoters.length c1516, .string x1512.fHard.fSnap, .int .i64 x1512.fHard.fLog.fBase, .int .i64 x1512.fHard.fLog.fBaseTerm, .slice A1518 x1512.fHard.fLog.fEntries.length c1519, .slice A1521 x1512.fVotes.length c1522, .slice A1524 x1512.fMarks.length c1525] 43 (0, 0)) :: H, (100834, ⟨.slice A1527 x1513.length c1528, 25, 11, x1513.length, (x1513.zip ps1530).flatMap GNote.encP⟩) :: R, φ1532⟩) (tag := 100834) rfl W hS) hv1589) ?_
    rintro ⟨ad1585, hA1587, f1586⟩
    have f1592 := fun (W : World) (h : φ1532 W) => (f1531 W h _ hz1590).1
    have f1593 := fun (W : World) (h : φ1532 W) => (f1531 W h _ hz1590).2
    refine ga_rG (i := 5) (bz 19 63) rfl (by kernel_rfl) (by decide) rfl rfl rfl rfl rfl h1583 (r_ix Try.underlying48 Try.sizeOf25 rfl hA1587 rfl hx1584) ?_
    have f1594 := fun (W : World) (h : (Sta.ok ⟨w0, M, (100140, g1534, .cells #[.int .i64 x1512.fMe, .int .i64 x1512.fRole, .int .i64 x1512.fLeader, .int .i64 x1512.fCommit, .int .i64 x1512.fLeft, .int .i64 x1512.fHard.fTerm, .int .i64 x1512.fHard.fVote, .slice A1515 x1512.fHard.fVoters.length c1516, .string x1512.fHard.fSnap, .int .i64 x1512.fHard.fLog.fBase, .int .i64 x1512.fHard.fLog.fBaseTerm, .slice A1518 x1512.fHard.fLog.fEntries.length c1519, .slice A1521 x1512.fVotes.length c1522, .slice A1524 x1512.fMarks.length c1525] 43 (0, 0)) :: (100130, g1506, .cells #[.int .i64 1, .int .i64 i1507, .int .i64 0, .int .i64 i1508, .int .i64 i1509, .int .i64 x1510, .int .i64 0, .bool false, .slice none 0 0, .slice none 0 0, .string (⟨#[]⟩ : ByteArray)] 25 (0, 0)) :: (100120, g1375, .cells #[.int .i64 x1371.fKind, .int .i64 x1371.fA, .int .i64 x1371.fB, .int .i64 x1371.fPick, .int .i64 x1371.fTimeout] 47 (0, 0)) :: (100100, g31, .cells (l1021.map (fun x : Int => Value.int .i64 x)).toArray 45 (0, 0)) :: (100090, g30, .cells #[.int .i64 x1512.fMe, .int .i64 x1512.fRole, .int .i64 x1512.fLeader, .int .i64 x1512.fCommit, .int .i64 x1512.fLeft, .int .i64 x1512.fHard.fTerm, .int .i64 x1512.fHard.fVote, .slice A1515 x1512.fHard.fVoters.length c1516, .string x1512.fHard.fSnap, .int .i64 x1512.fHard.fLog.fBase, .int .i64 x1512.fHard.fLog.fBaseTerm, .slice A1518 x1512.fHard.fLog.fEntries.length c1519, .slice A1521 x1512.fVotes.length c1522, .slice A1524 x1512.fMarks.length c1525] 43 (0, 0)) :: H, (100834, ⟨.slice A1527 x1513.length c1528, 25, 11, x1513.length, (x1513.zip ps1530).flatMap GNote.encP⟩) :: R, φ1532⟩) W) => Cl.drop (f1586 W h) 0
    refine ga_rG (i := 6) (bz 19 127) rfl (by kernel_rfl) (by decide) rfl rfl rfl rfl rfl h1583 (r_fieldF Try.underlying25 rfl Try.sizeOf3 rfl) <| ga_rG (i := 7) (bz 19 255) rfl (by kernel_rfl) (by decide) rfl rfl rfl rfl rfl h1583 (r_ld rfl Try.isAgg3 (fun W hS => Cl.head (f1594 W hS))) <| ga_rG (i := 8) (bz 19 511) rfl (by kernel_rfl) (by decide) rfl rfl rfl rfl rfl h1583 (r_neq rfl rfl) <| ga_r (i := 9) (bz 19 1023) rfl (by kernel_rfl) (by decide) rfl (r_pick0 rfl h1583) <| ga_r (i := 10) (bz 19 2047) rfl (by kernel_rfl) (by decide) rfl (r_move) ?_
    refine ga_if (t := 97) rfl (fun h1595 => ?_) (fun h1595 => ?_)
    ·
     replace hm := ite_t hm (of_decide_eq_true h1595)
     refine ga_no (i := 11) (bz 19 4095) rfl (by kernel_rfl) (fun _ _ _ _ h => h) rfl rfl rfl rfl rfl h1595 <| ga_no (i := 12) (bz 19 8191) rfl (by kernel_rfl) (fun _ _ _ _ h => h) rfl rfl rfl rfl rfl h1595 <| ga_no (i := 13) (bz 19 16383) rfl (by kernel_rfl) (fun _ _ _ _ h => h) rfl rfl rfl rfl rfl h1595 <| ga_no (i := 14) (bz 19 32767) rfl (by kernel_rfl) (fun _ _ _ _ h => h) rfl rfl rfl rfl rfl h1595 <| ga_no (i := 15) (bz 19 65535) rfl (by kernel_rfl) (fun _ _ _ _ h => h) rfl rfl rfl rfl rfl h1595 <| ga_no (i := 16) (bz 19 131071) rfl (by kernel_rfl) (fun _ _ _ _ h => h) rfl rfl rfl rfl rfl h1595 <| ga_no (i := 17) (bz 19 262143) rfl (by kernel_rfl) (fun _ _ _ _ h => h) rfl rfl rfl rfl rfl h1595 <| ga_r (i := 18) (bz 19 524287) rfl (by kernel_rfl) (by decide) rfl (r_pick1 rfl h1595) <| ga_done (by kernel_rfl) <| d_then ?_
     refine c_flat [(0, .slice Ap0_0 p0.length cp0_0), (5, .bool x2), (7, .int .i64 i1019), (9, .pointer (some ⟨g30, 0, none⟩)), (10, .pointer (some ⟨g31, 0, none⟩)), (11, .int .i64 i1020), (13, .pointer (some ⟨g1506, 0, none⟩)), (15, .slice A1527 x1513.length c1528), (105, .bool true)] ⟨rfl, rfl, rfl, rfl, rfl, rfl, rfl, rfl, rfl, trivial⟩ (fun u => ?_)
     refine c_sta ⟨w0, M, (100140, g1534, .cells #[.int .i64 x1512.fMe, .int .i64 x1512.fRole, .int .i64 x1512.fLeader, .int .i64 x1512.fCommit, .int .i64 x1512.fLeft, .int .i64 x1512.fHard.fTerm, .int .i64 x1512.fHard.fVote, .slice A1515 x1512.fHard.fVoters.length c1516, .string x1512.fHard.fSnap, .int .i64 x1512.fHard.fLog.fBase, .int .i64 x1512.fHard.fLog.fBaseTerm, .slice A1518 x1512.fHard.fLog.fEntries.length c1519, .slice A1521 x1512.fVotes.length c1522, .slice A1524 x1512.fMarks.length c1525] 43 (0, 0)) :: (100130, g1506, .cells #[.int .i64 1, .int .i64 i1507, .int .i64 0, .int .i64 i1508, .int .i64 i1509, .int .i64 x1510, .int .i64 0, .bool false, .slice none 0 0, .slice none 0 0, .string (⟨#[]⟩ : ByteArray)] 25 (0, 0)) :: (100120, g1375, .cells #[.int .i64 x1371.fKind, .int .i64 x1371.fA, .int .i64 x1371.fB, .int .i64 x1371.fPick, .int .i64 x1371.fTimeout] 47 (0, 0)) :: (100100, g31, .cells (l1021.map (fun x : Int => Value.int .i64 x)).toArray 45 (0, 0)) :: (100090, g30, .cells #[.int .i64 x1512.fMe, .int .i64 x1512.fRole, .int .i64 x1512.fLeader, .int .i64 x1512.fCommit, .int .i64 x1512.fLeft, .int .i64 x1512.fHard.fTerm, .int .i64 x1512.fHard.fVote, .slice A1515 x1512.fHard.fVoters.length c1516, .string x1512.fHard.fSnap, .int .i64 x1512.fHard.fLog.fBase, .int .i64 x1512.fHard.fLog.fBaseTerm, .slice A1518 x1512.fHard.fLog.fEntries.length c1519, .slice A1521 x1512.fVotes.length c1522, .slice A1524 x1512.fMarks.length c1525] 43 (0, 0)) :: H, (100834, ⟨.slice A1527 x1513.length c1528, 25, 11, x1513.length, (x1513.zip ps1530).flatMap GNote.encP⟩) :: R, φ1532⟩ (fun _ h => h) <| c_cond1 rfl rfl <| c_seq <| c_region <| g_v rfl r_assign <| g_nil <| d_then <| c_ret <| d_ret_then <| d_ret_block ?_
     refine d_ret_then <| d_ret_then <| d_ret_block <| d_ret_then <| d_ret_then ?_
     replace hm := nx_out (C := (fun e : Unit ⊕ Bool => Sum.elim (fun e => m_law12_RaftVotes_j1 x2) (fun x => some x) e = some r)) hm hnx2 hr2
     replace hm : some false = some r := hm
     cases hm
     exact d_retC () Try.results4 (res_tmp (res_nil rfl)) trivial (fun W h => ok_pre (H1 := [_, _, _, _, _]) (R1 := [_]) h (fun W hφ => (q11 _ (q13 _ (q29 _ (q1368 _ (q1420 _ (q1532 _ hφ)))))))) (.inr rfl)
    replace hm := ite_f hm (of_decide_eq_false h1595)
    refine ga_do (i := 11) (bz 19 4095) rfl (by kernel_rfl) (fun _ _ _ _ h => h) rfl rfl rfl rfl rfl h1595 (r_move) ?_
    replace hm := bnd hm
    obtain ⟨x1596, hx1596, hm⟩ := hm
    obtain ⟨pp1600, hv1601, hz1602, hcp1603⟩ := DOk.at_ hc1528.1 hx1596
    refine ga_know _ (fun W hS => cl_at (p := (Sta.ok ⟨w0, M, (100140, g1534, .cells #[.int .i64 x1512.fMe, .int .i64 x1512.fRole, .int .i64 x1512.fLeader, .int .i64 x1512.fCommit, .int .i64 x1512.fLeft, .int .i64 x1512.fHard.fTerm, .int .i64 x1512.fHard.fVote, .slice A1515 x1512.fHard.fVoters.length c1516, .string x1512.fHard.fSnap, .int .i64 x1512.fHard.fLog.fBase, .int .i64 x1512.fHard.fLog.fBaseTerm, .slice A1518 x1512.fHard.fLog.fEntries.length c1519, .slice A1521 x1512.fVotes.length c1522, .slice A1524 x1512.fMarks.length c1525] 43 (0, 0)) :: (100130, g1506, .cells #[.int .i64 1, .int .i64 i1507, .int .i64 0, .int .i64 i1508, .int .i64 i1509, .int .i64 x1510, .int .i64 0, .bool false, .slice none 0 0, .slice none 0 0, .string (⟨#[]⟩ : ByteArray)] 25 (0, 0)) :: (100120, g1375, .cells #[.int .i64 x1371.fKind, .int .i64 x1371.fA, .int .i64 x1371.fB, .int .i64 x1371.fPick, .int .i64 x1371.fTimeout] 47 (0, 0)) :: (100100, g31, .cells (l1021.map (fun x : Int => Value.int .i64 x)).toArray 45 (0, 0)) :: (100090, g30, .cells #[.int .i64 x1512.fMe, .int .i64 x1512.fRole, .int .i64 x1512.fLeader, .int .i64 x1512.fCommit, .int .i64 x1512.fLeft, .int .i64 x1512.fHard.fTerm, .int .i64 x1512.fHard.fVote, .slice A1515 x1512.fHard.fVoters.length c1516, .string x1512.fHard.fSnap, .int .i64 x1512.fHard.fLog.fBase, .int .i64 x1512.fHard.fLog.fBaseTerm, .slice A1518 x1512.fHard.fLog.fEntries.length c1519, .slice A1521 x1512.fVotes.length c1522, .slice A1524 x1512.fMarks.length c1525] 43 (0, 0)) :: H, (100834, ⟨.slice A1527 x1513.length c1528, 25, 11, x1513.length, (x1513.zip ps1530).flatMap GNote.encP⟩) :: R, φ1532⟩)) (sz := 11) (fun _ => rfl) (by decide) (hS.phi (fun W hφ => hφ)) (fun W hS => rowCl (S := ⟨w0, M, (100140, g1534, .cells #[.int .i64 x1512.fMe, .int .i64 x1512.fRole, .int .i64 x1512.fLeader, .int .i64 x1512.fCommit, .int .i64 x1512.fLeft, .int .i64 x1512.fHard.fTerm, .int .i64 x1512.fHard.fVote, .slice A1515 x1512.fHard.fVoters.length c1516, .string x1512.fHard.fSnap, .int .i64 x1512.fHard.fLog.fBase, .int .i64 x1512.fHard.fLog.fBaseTerm, .slice A1518 x1512.fHard.fLog.fEntries.length c1519, .slice A1521 x1512.fVotes.length c1522, .slice A1524 x1512.fMarks.length c1525] 43 (0, 0)) :: (100130, g1506, .cells #[.int .i64 1, .int .i64 i1507, .int .i64 0, .int .i64 i1508, .int .i64 i1509, .int .i64 x1510, .int .i64 0, .bool false, .slice none 0 0, .slice none 0 0, .string (⟨#[]⟩ : ByteArray)] 25 (0, 0)) :: (100120, g1375, .cells #[.int .i64 x1371.fKind, .int .i64 x1371.fA, .int .i64 x1371.fB, .int .i64 x1371.fPick, .int .i64 x1371.fTimeout] 47 (0, 0)) :: (100100, g31, .cells (l1021.map (fun x : Int => Value.int .i64 x)).toArray 45 (0, 0)) :: (100090, g30, .cells #[.int .i64 x1512.fMe, .int .i64 x1512.fRole, .int .i64 x1512.fLeader, .int .i64 x1512.fCommit, .int .i64 x1512.fLeft, .int .i64 x1512.fHard.fTerm, .int .i64 x1512.fHard.fVote, .slice A1515 x1512.fHard.fVoters.length c1516, .string x1512.fHard.fSnap, .int .i64 x1512.fHard.fLog.fBase, .int .i64 x1512.fHard.fLog.fBaseTerm, .slice A1518 x1512.fHard.fLog.fEntries.length c1519, .slice A1521 x1512.fVotes.length c1522, .slice A1524 x1512.fMarks.length c1525] 43 (0, 0)) :: H, (100834, ⟨.slice A1527 x1513.length c1528, 25, 11, x1513.length, (x1513.zip ps1530).flatMap GNote.encP⟩) :: R, φ1532⟩) (tag := 100834) rfl W hS) hv1601) ?_
    rintro ⟨ad1597, hA1599, f1598⟩
    have f1604 := fun (W : World) (h : φ1532 W) => (f1531 W h _ hz1602).1
    have f1605 := fun (W : World) (h : φ1532 W) => (f1531 W h _ hz1602).2
    refine ga_do (i := 12) (bz 19 8191) rfl (by kernel_rfl) (fun _ _ _ _ h => h) rfl rfl rfl rfl rfl h1595 (r_ix Try.underlying48 Try.sizeOf25 rfl hA1599 rfl hx1596) ?_
    have f1606 := fun (W : World) (h : (Sta.ok ⟨w0, M, (100140, g1534, .cells #[.int .i64 x1512.fMe, .int .i64 x1512.fRole, .int .i64 x1512.fLeader, .int .i64 x1512.fCommit, .int .i64 x1512.fLeft, .int .i64 x1512.fHard.fTerm, .int .i64 x1512.fHard.fVote, .slice A1515 x1512.fHard.fVoters.length c1516, .string x1512.fHard.fSnap, .int .i64 x1512.fHard.fLog.fBase, .int .i64 x1512.fHard.fLog.fBaseTerm, .slice A1518 x1512.fHard.fLog.fEntries.length c1519, .slice A1521 x1512.fVotes.length c1522, .slice A1524 x1512.fMarks.length c1525] 43 (0, 0)) :: (100130, g1506, .cells #[.int .i64 1, .int .i64 i1507, .int .i64 0, .int .i64 i1508, .int .i64 i1509, .int .i64 x1510, .int .i64 0, .bool false, .slice none 0 0, .slice none 0 0, .string (⟨#[]⟩ : ByteArray)] 25 (0, 0)) :: (100120, g1375, .cells #[.int .i64 x1371.fKind, .int .i64 x1371.fA, .int .i64 x1371.fB, .int .i64 x1371.fPick, .int .i64 x1371.fTimeout] 47 (0, 0)) :: (100100, g31, .cells (l1021.map (fun x : Int => Value.int .i64 x)).toArray 45 (0, 0)) :: (100090, g30, .cells #[.int .i64 x1512.fMe, .int .i64 x1512.fRole, .int .i64 x1512.fLeader, .int .i64 x1512.fCommit, .int .i64 x1512.fLeft, .int .i64 x1512.fHard.fTerm, .int .i64 x1512.fHard.fVote, .slice A1515 x1512.fHard.fVoters.length c1516, .string x1512.fHard.fSnap, .int .i64 x1512.fHard.fLog.fBase, .int .i64 x1512.fHard.fLog.fBaseTerm, .slice A1518 x1512.fHard.fLog.fEntries.length c1519, .slice A1521 x1512.fVotes.length c1522, .slice A1524 x1512.fMarks.length c1525] 43 (0, 0)) :: H, (100834, ⟨.slice A1527 x1513.length c1528, 25, 11, x1513.length, (x1513.zip ps1530).flatMap GNote.encP⟩) :: R, φ1532⟩) W) => Cl.drop (f1598 W h) 2
    refine ga_do (i := 13) (bz 19 16383) rfl (by kernel_rfl) (fun _ _ _ _ h => h) rfl rfl rfl rfl rfl h1595 (r_fieldF Try.underlying25 rfl Try.sizeOf3 rfl) <| ga_do (i := 14) (bz 19 32767) rfl (by kernel_rfl) (fun _ _ _ _ h => h) rfl rfl rfl rfl rfl h1595 (r_ld rfl Try.isAgg3 (fun W hS => Cl.head (f1606 W hS))) <| ga_rG (i := 15) (bz 19 65535) rfl (by kernel_rfl) (by decide) rfl rfl rfl rfl rfl h1595 (r_field (n := 1) Try.underlying25 rfl Try.sizeOf3 rfl rfl) <| ga_rG (i := 16) (bz 19 131071) rfl (by kernel_rfl) (by decide) rfl rfl rfl rfl rfl h1595 (r_load (tag := 100130) rfl rfl rfl Try.isAgg3) <| ga_rG (i := 17) (bz 19 262143) rfl (by kernel_rfl) (by decide) rfl rfl rfl rfl rfl h1595 (r_neq rfl rfl) <| ga_r (i := 18) (bz 19 524287) rfl (by kernel_rfl) (by decide) rfl (r_pick0 rfl h1595) <| ga_done (by kernel_rfl) <| d_then ?_
    refine c_flat [(0, .slice Ap0_0 p0.length cp0_0), (5, .bool x2), (7, .int .i64 i1019), (9, .pointer (some ⟨g30, 0, none⟩)), (10, .pointer (some ⟨g31, 0, none⟩)), (11, .int .i64 i1020), (13, .pointer (some ⟨g1506, 0, none⟩)), (15, .slice A1527 x1513.length c1528), (105, .bool (decide (x1596.fTo ≠ i1507)))] ⟨rfl, rfl, rfl, rfl, rfl, rfl, rfl, rfl, rfl, trivial⟩ (fun u => ?_)
    refine c_sta ⟨w0, M, (100140, g1534, .cells #[.int .i64 x1512.fMe, .int .i64 x1512.fRole, .int .i64 x1512.fLeader, .int .i64 x1512.fCommit, .int .i64 x1512.fLeft, .int .i64 x1512.fHard.fTerm, .int .i64 x1512.fHard.fVote, .slice A1515 x1512.fHard.fVoters.length c1516, .string x1512.fHard.fSnap, .int .i64 x1512.fHard.fLog.fBase, .int .i64 x1512.fHard.fLog.fBaseTerm, .slice A1518 x1512.fHard.fLog.fEntries.length c1519, .slice A1521 x1512.fVotes.length c1522, .slice A1524 x1512.fMarks.length c1525] 43 (0, 0)) :: (100130, g1506, .cells #[.int .i64 1, .int .i64 i1507, .int .i64 0, .int .i64 i1508, .int .i64 i1509, .int .i64 x1510, .int .i64 0, .bool false, .slice none 0 0, .slice none 0 0, .string (⟨#[]⟩ : ByteArray)] 25 (0, 0)) :: (100120, g1375, .cells #[.int .i64 x1371.fKind, .int .i64 x1371.fA, .int .i64 x1371.fB, .int .i64 x1371.fPick, .int .i64 x1371.fTimeout] 47 (0, 0)) :: (100100, g31, .cells (l1021.map (fun x : Int => Value.int .i64 x)).toArray 45 (0, 0)) :: (100090, g30, .cells #[.int .i64 x1512.fMe, .int .i64 x1512.fRole, .int .i64 x1512.fLeader, .int .i64 x1512.fCommit, .int .i64 x1512.fLeft, .int .i64 x1512.fHard.fTerm, .int .i64 x1512.fHard.fVote, .slice A1515 x1512.fHard.fVoters.length c1516, .string x1512.fHard.fSnap, .int .i64 x1512.fHard.fLog.fBase, .int .i64 x1512.fHard.fLog.fBaseTerm, .slice A1518 x1512.fHard.fLog.fEntries.length c1519, .slice A1521 x1512.fVotes.length c1522, .slice A1524 x1512.fMarks.length c1525] 43 (0, 0)) :: H, (100834, ⟨.slice A1527 x1513.length c1528, 25, 11, x1513.length, (x1513.zip ps1530).flatMap GNote.encP⟩) :: R, φ1532⟩ (fun _ h => h) ?_
    refine c_cond rfl (fun h1607 => ?_) (fun h1607 => ?_)
    ·
     replace hm := ite_t hm (of_decide_eq_true h1607)
     refine c_seq <| c_region <| g_v rfl r_assign <| g_nil <| d_then <| c_ret <| d_ret_then <| d_ret_block <| d_ret_then <| d_ret_then ?_
     refine d_ret_block <| d_ret_then <| d_ret_then ?_
     replace hm := nx_out (C := (fun e : Unit ⊕ Bool => Sum.elim (fun e => m_law12_RaftVotes_j1 x2) (fun x => some x) e = some r)) hm hnx2 hr2
     replace hm : some false = some r := hm
     cases hm
     exact d_retC () Try.results4 (res_tmp (res_nil rfl)) trivial (fun W h => ok_pre (H1 := [_, _, _, _, _]) (R1 := [_]) h (fun W hφ => (q11 _ (q13 _ (q29 _ (q1368 _ (q1420 _ (q1532 _ hφ)))))))) (.inr rfl)
    replace hm := ite_f hm (of_decide_eq_false h1607)
    refine c_skip <| d_then <| c_seq <| c_seq <| c_region <| g_v rfl r_move ?_
    replace hm := bnd hm
    obtain ⟨x1608, hx1608, hm⟩ := hm
    obtain ⟨pp1612, hv1613, hz1614, hcp1615⟩ := DOk.at_ hc1528.1 hx1608
    refine g_know _ (fun W hS => cl_at (p := (Sta.ok ⟨w0, M, (100140, g1534, .cells #[.int .i64 x1512.fMe, .int .i64 x1512.fRole, .int .i64 x1512.fLeader, .int .i64 x1512.fCommit, .int .i64 x1512.fLeft, .int .i64 x1512.fHard.fTerm, .int .i64 x1512.fHard.fVote, .slice A1515 x1512.fHard.fVoters.length c1516, .string x1512.fHard.fSnap, .int .i64 x1512.fHard.fLog.fBase, .int .i64 x1512.fHard.fLog.fBaseTerm, .slice A1518 x1512.fHard.fLog.fEntries.length c1519, .slice A1521 x1512.fVotes.length c1522, .slice A1524 x1512.fMarks.length c1525] 43 (0, 0)) :: (100130, g1506, .cells #[.int .i64 1, .int .i64 i1507, .int .i64 0, .int .i64 i1508, .int .i64 i1509, .int .i64 x1510, .int .i64 0, .bool false, .slice none 0 0, .slice none 0 0, .string (⟨#[]⟩ : ByteArray)] 25 (0, 0)) :: (100120, g1375, .cells #[.int .i64 x1371.fKind, .int .i64 x1371.fA, .int .i64 x1371.fB, .int .i64 x1371.fPick, .int .i64 x1371.fTimeout] 47 (0, 0)) :: (100100, g31, .cells (l1021.map (fun x : Int => Value.int .i64 x)).toArray 45 (0, 0)) :: (100090, g30, .cells #[.int .i64 x1512.fMe, .int .i64 x1512.fRole, .int .i64 x1512.fLeader, .int .i64 x1512.fCommit, .int .i64 x1512.fLeft, .int .i64 x1512.fHard.fTerm, .int .i64 x1512.fHard.fVote, .slice A1515 x1512.fHard.fVoters.length c1516, .string x1512.fHard.fSnap, .int .i64 x1512.fHard.fLog.fBase, .int .i64 x1512.fHard.fLog.fBaseTerm, .slice A1518 x1512.fHard.fLog.fEntries.length c1519, .slice A1521 x1512.fVotes.length c1522, .slice A1524 x1512.fMarks.length c1525] 43 (0, 0)) :: H, (100834, ⟨.slice A1527 x1513.length c1528, 25, 11, x1513.length, (x1513.zip ps1530).flatMap GNote.encP⟩) :: R, φ1532⟩)) (sz := 11) (fun _ => rfl) (by decide) hS (fun W hS => rowCl (S := ⟨w0, M, (100140, g1534, .cells #[.int .i64 x1512.fMe, .int .i64 x1512.fRole, .int .i64 x1512.fLeader, .int .i64 x1512.fCommit, .int .i64 x1512.fLeft, .int .i64 x1512.fHard.fTerm, .int .i64 x1512.fHard.fVote, .slice A1515 x1512.fHard.fVoters.length c1516, .string x1512.fHard.fSnap, .int .i64 x1512.fHard.fLog.fBase, .int .i64 x1512.fHard.fLog.fBaseTerm, .slice A1518 x1512.fHard.fLog.fEntries.length c1519, .slice A1521 x1512.fVotes.length c1522, .slice A1524 x1512.fMarks.length c1525] 43 (0, 0)) :: (100130, g1506, .cells #[.int .i64 1, .int .i64 i1507, .int .i64 0, .int .i64 i1508, .int .i64 i1509, .int .i64 x1510, .int .i64 0, .bool false, .slice none 0 0, .slice none 0 0, .string (⟨#[]⟩ : ByteArray)] 25 (0, 0)) :: (100120, g1375, .cells #[.int .i64 x1371.fKind, .int .i64 x1371.fA, .int .i64 x1371.fB, .int .i64 x1371.fPick, .int .i64 x1371.fTimeout] 47 (0, 0)) :: (100100, g31, .cells (l1021.map (fun x : Int => Value.int .i64 x)).toArray 45 (0, 0)) :: (100090, g30, .cells #[.int .i64 x1512.fMe, .int .i64 x1512.fRole, .int .i64 x1512.fLeader, .int .i64 x1512.fCommit, .int .i64 x1512.fLeft, .int .i64 x1512.fHard.fTerm, .int .i64 x1512.fHard.fVote, .slice A1515 x1512.fHard.fVoters.length c1516, .string x1512.fHard.fSnap, .int .i64 x1512.fHard.fLog.fBase, .int .i64 x1512.fHard.fLog.fBaseTerm, .slice A1518 x1512.fHard.fLog.fEntries.length c1519, .slice A1521 x1512.fVotes.length c1522, .slice A1524 x1512.fMarks.length c1525] 43 (0, 0)) :: H, (100834, ⟨.slice A1527 x1513.length c1528, 25, 11, x1513.length, (x1513.zip ps1530).flatMap GNote.encP⟩) :: R, φ1532⟩) (tag := 100834) rfl W hS) hv1613) ?_
    rintro ⟨ad1609, hA1611, f1610⟩
    have f1616 := fun (W : World) (h : φ1532 W) => (f1531 W h _ hz1614).1
    have f1617 := fun (W : World) (h : φ1532 W) => (f1531 W h _ hz1614).2
    refine g_v rfl (r_ix Try.underlying48 Try.sizeOf25 rfl hA1611 rfl hx1608) ?_
    have f1618 := fun (W : World) (h : (Sta.ok ⟨w0, M, (100140, g1534, .cells #[.int .i64 x1512.fMe, .int .i64 x1512.fRole, .int .i64 x1512.fLeader, .int .i64 x1512.fCommit, .int .i64 x1512.fLeft, .int .i64 x1512.fHard.fTerm, .int .i64 x1512.fHard.fVote, .slice A1515 x1512.fHard.fVoters.length c1516, .string x1512.fHard.fSnap, .int .i64 x1512.fHard.fLog.fBase, .int .i64 x1512.fHard.fLog.fBaseTerm, .slice A1518 x1512.fHard.fLog.fEntries.length c1519, .slice A1521 x1512.fVotes.length c1522, .slice A1524 x1512.fMarks.length c1525] 43 (0, 0)) :: (100130, g1506, .cells #[.int .i64 1, .int .i64 i1507, .int .i64 0, .int .i64 i1508, .int .i64 i1509, .int .i64 x1510, .int .i64 0, .bool false, .slice none 0 0, .slice none 0 0, .string (⟨#[]⟩ : ByteArray)] 25 (0, 0)) :: (100120, g1375, .cells #[.int .i64 x1371.fKind, .int .i64 x1371.fA, .int .i64 x1371.fB, .int .i64 x1371.fPick, .int .i64 x1371.fTimeout] 47 (0, 0)) :: (100100, g31, .cells (l1021.map (fun x : Int => Value.int .i64 x)).toArray 45 (0, 0)) :: (100090, g30, .cells #[.int .i64 x1512.fMe, .int .i64 x1512.fRole, .int .i64 x1512.fLeader, .int .i64 x1512.fCommit, .int .i64 x1512.fLeft, .int .i64 x1512.fHard.fTerm, .int .i64 x1512.fHard.fVote, .slice A1515 x1512.fHard.fVoters.length c1516, .string x1512.fHard.fSnap, .int .i64 x1512.fHard.fLog.fBase, .int .i64 x1512.fHard.fLog.fBaseTerm, .slice A1518 x1512.fHard.fLog.fEntries.length c1519, .slice A1521 x1512.fVotes.length c1522, .slice A1524 x1512.fMarks.length c1525] 43 (0, 0)) :: H, (100834, ⟨.slice A1527 x1513.length c1528, 25, 11, x1513.length, (x1513.zip ps1530).flatMap GNote.encP⟩) :: R, φ1532⟩) W) => Cl.drop (f1610 W h) 7
    refine g_v rfl (r_fieldF Try.underlying25 rfl Try.sizeOf4 rfl) <| g_v rfl (r_ld rfl Try.isAgg4 (fun W hS => Cl.head (f1618 W hS))) <| g_v rfl (r_not rfl) <| g_nil <| d_then ?_
    refine c_cond rfl (fun h1619 => ?_) (fun h1619 => ?_)
    ·
     have h1619' : x1608.fGood = false := by revert h1619; cases x1608.fGood <;> simp
     replace hm := ite_f hm (bool_nt h1619')
     refine c_exit <| d_exit_then <| d_exit_block <| d_then <| c_region <| g_v rfl r_move <| g_v rfl (r_add rfl rfl rfl) <| g_v rfl r_assign <| g_nil ?_
     obtain ⟨n1620, hn1620, hlp⟩ := nx_inl hm hnx2
     exact d_round (n1620, i1019, w64 (i1020 + 1), l1021, x1512.fMe, x1512.fRole, x1512.fLeader, x1512.fCommit, x1512.fLeft, x1512.fHard.fTerm, x1512.fHard.fVote, x1512.fHard.fVoters, x1512.fHard.fSnap, x1512.fHard.fLog.fBase, x1512.fHard.fLog.fBaseTerm, x1512.fHard.fLog.fEntries, x1512.fVotes, x1512.fMarks, A1515, c1516, A1518, c1519, A1521, c1522, A1524, c1525) ⟨hlp, hc1516, hc1519, hc1522, hc1525⟩ hn1620 ⟨rfl, rfl, rfl, rfl, rfl, rfl, trivial⟩ (fun W h => ((((h.dropR (t := 100834) rfl).dropH (t := 100140) rfl).dropH (t := 100130) rfl).dropH (t := 100120) rfl).phi (fun W hφ => ⟨(q1368 _ (q1420 _ (q1532 _ hφ))), (fun W h => f1517 W h) W hφ, (fun W h => f1520 W h) W hφ, (fun W h => f1523 W h) W hφ, (fun W h => f1526 W h) W hφ⟩))
    have h1619' : x1608.fGood = true := by revert h1619; cases x1608.fGood <;> simp
    replace hm := ite_t hm h1619'
    refine c_skip <| d_then <| c_seq ?_
    refine c_cut (ι := Bool) [0, 5, 7, 9, 10, 11, 13, 16] (fun b1623 => [(16, .bool b1623)]) (fun b1623 => ⟨w0, M, (100130, g1506, .cells #[.int .i64 1, .int .i64 i1507, .int .i64 0, .int .i64 i1508, .int .i64 i1509, .int .i64 x1510, .int .i64 0, .bool false, .slice none 0 0, .slice none 0 0, .string (⟨#[]⟩ : ByteArray)] 25 (0, 0)) :: (100100, g31, .cells (l1021.map (fun x : Int => Value.int .i64 x)).toArray 45 (0, 0)) :: (100090, g30, .cells #[.int .i64 x1512.fMe, .int .i64 x1512.fRole, .int .i64 x1512.fLeader, .int .i64 x1512.fCommit, .int .i64 x1512.fLeft, .int .i64 x1512.fHard.fTerm, .int .i64 x1512.fHard.fVote, .slice A1515 x1512.fHard.fVoters.length c1516, .string x1512.fHard.fSnap, .int .i64 x1512.fHard.fLog.fBase, .int .i64 x1512.fHard.fLog.fBaseTerm, .slice A1518 x1512.fHard.fLog.fEntries.length c1519, .slice A1521 x1512.fVotes.length c1522, .slice A1524 x1512.fMarks.length c1525] 43 (0, 0)) :: H, R, φ1532⟩) (fun b1623 => m_law12_RaftVotes_j5 i1508 l1021 i1507 x1512 i1019 i1020 b1623 = some o2) ?_ (fun b1623 u hm => ?_)
    ·
     refine c_region <| g_v rfl (r_field (n := 5) Try.underlying25 rfl Try.sizeOf3 rfl rfl) <| g_v rfl (r_load (tag := 100130) rfl rfl rfl Try.isAgg3) <| g_v rfl r_move <| g_v rfl (r_lss rfl rfl) <| g_v rfl r_move ?_
     refine g_if rfl rfl rfl rfl rfl (fun h1662 => ?_) (fun h1662 => ?_)
     ·
      replace hm := ite_f hm (of_decide_eq_false h1662)
      refine g_v rfl (r_field (n := 5) Try.underlying25 rfl Try.sizeOf3 rfl rfl) <| g_do rfl rfl rfl rfl rfl h1662 <| g_v rfl (r_load (tag := 100130) rfl rfl rfl Try.isAgg3) <| g_do rfl rfl rfl rfl rfl h1662 <| g_v rfl r_move <| g_do rfl rfl rfl rfl rfl h1662 <| g_v rfl (r_eql rfl rfl) <| g_do rfl rfl rfl rfl rfl h1662 <| g_v rfl r_move ?_
      refine g_if rfl rfl rfl rfl rfl (fun h1663 => ?_) (fun h1663 => ?_)
      ·
       replace hm := ite_t hm (of_decide_eq_true h1663)
       refine g_v rfl (r_field (n := 4) Try.underlying25 rfl Try.sizeOf3 rfl rfl) <| g_do rfl rfl rfl rfl rfl h1663 <| g_v rfl (r_load (tag := 100130) rfl rfl rfl Try.isAgg3) <| g_do rfl rfl rfl rfl rfl h1663 <| g_v rfl (r_lss rfl rfl) <| g_do rfl rfl rfl rfl rfl h1662 <| g_v rfl (r_pick1 rfl h1663) <| g_v rfl (r_pick0 rfl h1662) <| g_v rfl r_assign <| g_nil ?_
       exact d_round (decide (i1509 < 2)) hm Nat.zero_lt_one ⟨rfl, rfl, rfl, rfl, rfl, rfl, rfl, rfl, trivial⟩ (fun W h => (((h.dropR (t := 100834) rfl).dropH (t := 100140) rfl).dropH (t := 100120) rfl).phi (fun W hφ => hφ))
      replace hm := ite_f hm (of_decide_eq_false h1663)
      refine g_no rfl rfl rfl rfl rfl h1663 <| g_no rfl rfl rfl rfl rfl h1663 <| g_do rfl rfl rfl rfl rfl h1662 <| g_v rfl (r_pick0 rfl h1663) <| g_v rfl (r_pick0 rfl h1662) <| g_v rfl r_assign <| g_nil ?_
      exact d_round false hm Nat.zero_lt_one ⟨rfl, rfl, rfl, rfl, rfl, rfl, rfl, rfl, trivial⟩ (fun W h => (((h.dropR (t := 100834) rfl).dropH (t := 100140) rfl).dropH (t := 100120) rfl).phi (fun W hφ => hφ))
     replace hm := ite_t hm (of_decide_eq_true h1662)
     iterate 4 refine g_no rfl rfl rfl rfl rfl h1662 ?_
     iterate 3 refine g_nu rfl rfl rfl rfl rfl ?_
     refine g_no rfl rfl rfl rfl rfl h1662 <| g_v rfl (r_pick1 rfl h1662) <| g_v rfl r_assign <| g_nil ?_
     exact d_round true hm Nat.zero_lt_one ⟨rfl, rfl, rfl, rfl, rfl, rfl, rfl, rfl, trivial⟩ (fun W h => (((h.dropR (t := 100834) rfl).dropH (t := 100140) rfl).dropH (t := 100120) rfl).phi (fun W hφ => hφ))
    unfold m_law12_RaftVotes_j5 at hm
    refine d_flat [(0, .slice Ap0_0 p0.length cp0_0), (5, .bool x2), (7, .int .i64 i1019), (9, .pointer (some ⟨g30, 0, none⟩)), (10, .pointer (some ⟨g31, 0, none⟩)), (11, .int .i64 i1020), (13, .pointer (some ⟨g1506, 0, none⟩)), (16, .bool b1623)] ⟨rfl, rfl, rfl, rfl, rfl, rfl, rfl, rfl, trivial⟩ (fun u => ?_)
    refine d_sta ⟨w0, M, (100130, g1506, .cells #[.int .i64 1, .int .i64 i1507, .int .i64 0, .int .i64 i1508, .int .i64 i1509, .int .i64 x1510, .int .i64 0, .bool false, .slice none 0 0, .slice none 0 0, .string (⟨#[]⟩ : ByteArray)] 25 (0, 0)) :: (100100, g31, .cells (l1021.map (fun x : Int => Value.int .i64 x)).toArray 45 (0, 0)) :: (100090, g30, .cells #[.int .i64 x1512.fMe, .int .i64 x1512.fRole, .int .i64 x1512.fLeader, .int .i64 x1512.fCommit, .int .i64 x1512.fLeft, .int .i64 x1512.fHard.fTerm, .int .i64 x1512.fHard.fVote, .slice A1515 x1512.fHard.fVoters.length c1516, .string x1512.fHard.fSnap, .int .i64 x1512.fHard.fLog.fBase, .int .i64 x1512.fHard.fLog.fBaseTerm, .slice A1518 x1512.fHard.fLog.fEntries.length c1519, .slice A1521 x1512.fVotes.length c1522, .slice A1524 x1512.fMarks.length c1525] 43 (0, 0)) :: H, R, φ1532⟩ (fun _ h => h) <| d_then <| c_seq <| c_seq <| ga_start (n := 34) ⟨w0, M, (100130, g1506, .cells #[.int .i64 1, .int .i64 i1507, .int .i64 0, .int .i64 i1508, .int .i64 i1509, .int .i64 x1510, .int .i64 0, .bool false, .slice none 0 0, .slice none 0 0, .string (⟨#[]⟩ : ByteArray)] 25 (0, 0)) :: (100100, g31, .cells (l1021.map (fun x : Int => Value.int .i64 x)).toArray 45 (0, 0)) :: (100090, g30, .cells #[.int .i64 x1512.fMe, .int .i64 x1512.fRole, .int .i64 x1512.fLeader, .int .i64 x1512.fCommit, .int .i64 x1512.fLeft, .int .i64 x1512.fHard.fTerm, .int .i64 x1512.fHard.fVote, .slice A1515 x1512.fHard.fVoters.length c1516, .string x1512.fHard.fSnap, .int .i64 x1512.fHard.fLog.fBase, .int .i64 x1512.fHard.fLog.fBaseTerm, .slice A1518 x1512.fHard.fLog.fEntries.length c1519, .slice A1521 x1512.fVotes.length c1522, .slice A1524 x1512.fMarks.length c1525] 43 (0, 0)) :: H, R, φ1532⟩ [] #[false, false, false, false, false, false, false, false, false, false, false, false, false, false, false, false, false, false, false, false, false, false, false, false, false, false, false, false, false, false, false, false, false, false] (fun W h => h.phi (fun W hφ => hφ)) mixed rfl rfl <| ga_r (i := 0) (bz 34 1) rfl (by kernel_rfl) (by decide) rfl (r_field (n := 3) Try.underlying25 rfl Try.sizeOf3 rfl rfl) <| ga_r (i := 1) (bz 34 3) rfl (by kernel_rfl) (by decide) rfl (r_load (tag := 100130) rfl rfl rfl Try.isAgg3) ?_
    replace hm := bnd hm
    obtain ⟨a1644, ha1644, hm⟩ := hm
    refine ga_r (i := 2) (bz 34 7) rfl (by kernel_rfl) (by decide) rfl (r_aix Try.underlying45 Try.sizeOf3 rfl rfl ha1644 rfl) ?_
    replace hm := bnd hm
    obtain ⟨x1645, hx1645, hm⟩ := hm
    refine ga_r (i := 3) (bz 34 15) rfl (by kernel_rfl) (by decide) rfl (r_ldL (tag := 100100) (f := (fun x : Int => Value.int .i64 x)) rfl rfl Try.isAgg3 hx1645) <| ga_r (i := 4) (bz 34 31) rfl (by kernel_rfl) (by decide) rfl (r_neq rfl rfl) <| ga_r (i := 5) (bz 34 63) rfl (by kernel_rfl) (by decide) rfl (r_move) ?_
    refine ga_if (t := 131) rfl (fun h1646 => ?_) (fun h1646 => ?_)
    ·
     replace hm := ite_t hm (of_decide_eq_true h1646)
     refine ga_do (i := 6) (bz 34 127) rfl (by kernel_rfl) (fun _ _ _ _ h => h) rfl rfl rfl rfl rfl h1646 (r_field (n := 3) Try.underlying25 rfl Try.sizeOf3 rfl rfl) <| ga_do (i := 7) (bz 34 255) rfl (by kernel_rfl) (fun _ _ _ _ h => h) rfl rfl rfl rfl rfl h1646 (r_load (tag := 100130) rfl rfl rfl Try.isAgg3) ?_
     replace hm := bnd hm
     obtain ⟨a1647, ha1647, hm⟩ := hm
     refine ga_do (i := 8) (bz 34 511) rfl (by kernel_rfl) (fun _ _ _ _ h => h) rfl rfl rfl rfl rfl h1646 (r_aix Try.underlying45 Try.sizeOf3 rfl rfl ha1647 rfl) ?_
     replace hm := bnd hm
     obtain ⟨x1648, hx1648, hm⟩ := hm
     refine ga_do (i := 9) (bz 34 1023) rfl (by kernel_rfl) (fun _ _ _ _ h => h) rfl rfl rfl rfl rfl h1646 (r_ldL (tag := 100100) (f := (fun x : Int => Value.int .i64 x)) rfl rfl Try.isAgg3 hx1648) <| ga_rG (i := 10) (bz 34 2047) rfl (by kernel_rfl) (by decide) rfl rfl rfl rfl rfl h1646 (r_field (n := 1) Try.underlying25 rfl Try.sizeOf3 rfl rfl) <| ga_rG (i := 11) (bz 34 4095) rfl (by kernel_rfl) (by decide) rfl rfl rfl rfl rfl h1646 (r_load (tag := 100130) rfl rfl rfl Try.isAgg3) <| ga_rG (i := 12) (bz 34 8191) rfl (by kernel_rfl) (by decide) rfl rfl rfl rfl rfl h1646 (r_neq rfl rfl) <| ga_r (i := 13) (bz 34 16383) rfl (by kernel_rfl) (by decide) rfl (r_pick1 rfl h1646) <| ga_r (i := 14) (bz 34 32767) rfl (by kernel_rfl) (by decide) rfl (r_move) ?_
     refine ga_if (t := 140) rfl (fun h1649 => ?_) (fun h1649 => ?_)
     ·
      replace hm := ite_t hm (of_decide_eq_true h1649)
      refine ga_no (i := 15) (bz 34 65535) rfl (by kernel_rfl) (fun _ _ _ _ h => h) rfl rfl rfl rfl rfl h1649 <| ga_r (i := 16) (bz 34 131071) rfl (by kernel_rfl) (by decide) rfl (r_pick1 rfl h1649) <| ga_r (i := 17) (bz 34 262143) rfl (by kernel_rfl) (by decide) rfl (r_move) <| ga_no (i := 18) (bz 34 524287) rfl (by kernel_rfl) (fun _ _ _ _ h => h) rfl rfl rfl rfl rfl rfl <| ga_no (i := 19) (bz 34 1048575) rfl (by kernel_rfl) (fun _ _ _ _ h => h) rfl rfl rfl rfl rfl rfl <| ga_no (i := 20) (bz 34 2097151) rfl (by kernel_rfl) (fun _ _ _ _ h => h) rfl rfl rfl rfl rfl rfl <| ga_no (i := 21) (bz 34 4194303) rfl (by kernel_rfl) (fun _ _ _ _ h => h) rfl rfl rfl rfl rfl rfl <| ga_no (i := 22) (bz 34 8388607) rfl (by kernel_rfl) (fun _ _ _ _ h => h) rfl rfl rfl rfl rfl rfl <| ga_no (i := 23) (bz 34 16777215) rfl (by kernel_rfl) (fun _ _ _ _ h => h) rfl rfl rfl rfl rfl rfl <| ga_r (i := 24) (bz 34 33554431) rfl (by kernel_rfl) (by decide) rfl (r_pick1 rfl rfl) ?_
      refine ga_r (i := 25) (bz 34 67108863) rfl (by kernel_rfl) (by decide) rfl (r_move) <| ga_no (i := 26) (bz 34 134217727) rfl (by kernel_rfl) (fun _ _ _ _ h => h) rfl rfl rfl rfl rfl rfl <| ga_no (i := 27) (bz 34 268435455) rfl (by kernel_rfl) (fun _ _ _ _ h => h) rfl rfl rfl rfl rfl rfl <| ga_no (i := 28) (bz 34 536870911) rfl (by kernel_rfl) (fun _ _ _ _ h => h) rfl rfl rfl rfl rfl rfl <| ga_no (i := 29) (bz 34 1073741823) rfl (by kernel_rfl) (fun _ _ _ _ h => h) rfl rfl rfl rfl rfl rfl <| ga_no (i := 30) (bz 34 2147483647) rfl (by kernel_rfl) (fun _ _ _ _ h => h) rfl rfl rfl rfl rfl rfl <| ga_no (i := 31) (bz 34 4294967295) rfl (by kernel_rfl) (fun _ _ _ _ h => h) rfl rfl rfl rfl rfl rfl <| ga_no (i := 32) (bz 34 8589934591) rfl (by kernel_rfl) (fun _ _ _ _ h => h) rfl rfl rfl rfl rfl rfl <| ga_r (i := 33) (bz 34 17179869183) rfl (by kernel_rfl) (by decide) rfl (r_pick1 rfl rfl) <| ga_done (by kernel_rfl) ?_
      refine d_then ?_
      refine c_flat [(0, .slice Ap0_0 p0.length cp0_0), (5, .bool x2), (7, .int .i64 i1019), (9, .pointer (some ⟨g30, 0, none⟩)), (10, .pointer (some ⟨g31, 0, none⟩)), (11, .int .i64 i1020), (13, .pointer (some ⟨g1506, 0, none⟩)), (159, .bool true)] ⟨rfl, rfl, rfl, rfl, rfl, rfl, rfl, rfl, trivial⟩ (fun u => ?_)
      refine c_cond1 rfl rfl <| c_seq <| c_region <| g_v rfl r_assign <| g_nil <| d_then <| c_ret <| d_ret_then <| d_ret_block <| d_ret_then ?_
      refine d_ret_then <| d_ret_block <| d_ret_then <| d_ret_then ?_
      replace hm := nx_out (C := (fun e : Unit ⊕ Bool => Sum.elim (fun e => m_law12_RaftVotes_j1 x2) (fun x => some x) e = some r)) hm hnx2 hr2
      replace hm : some false = some r := hm
      cases hm
      exact d_retC () Try.results4 (res_tmp (res_nil rfl)) trivial (fun W h => ok_pre (H1 := [_, _, _]) (R1 := []) h (fun W hφ => (q11 _ (q13 _ (q29 _ (q1368 _ (q1420 _ (q1532 _ hφ)))))))) (.inr rfl)
     replace hm := ite_f hm (of_decide_eq_false h1649)
     refine ga_rG (i := 15) (bz 34 65535) rfl (by kernel_rfl) (by decide) rfl rfl rfl rfl rfl h1649 (r_move) <| ga_r (i := 16) (bz 34 131071) rfl (by kernel_rfl) (by decide) rfl (r_pick0 rfl h1649) <| ga_r (i := 17) (bz 34 262143) rfl (by kernel_rfl) (by decide) rfl (r_move) ?_
     refine ga_if (t := 143) rfl (fun h1650 => ?_) (fun h1650 => ?_)
     ·
      replace hm := ite_t hm h1650
      refine ga_no (i := 18) (bz 34 524287) rfl (by kernel_rfl) (fun _ _ _ _ h => h) rfl rfl rfl rfl rfl h1650 <| ga_no (i := 19) (bz 34 1048575) rfl (by kernel_rfl) (fun _ _ _ _ h => h) rfl rfl rfl rfl rfl h1650 <| ga_no (i := 20) (bz 34 2097151) rfl (by kernel_rfl) (fun _ _ _ _ h => h) rfl rfl rfl rfl rfl h1650 <| ga_no (i := 21) (bz 34 4194303) rfl (by kernel_rfl) (fun _ _ _ _ h => h) rfl rfl rfl rfl rfl h1650 <| ga_no (i := 22) (bz 34 8388607) rfl (by kernel_rfl) (fun _ _ _ _ h => h) rfl rfl rfl rfl rfl h1650 <| ga_no (i := 23) (bz 34 16777215) rfl (by kernel_rfl) (fun _ _ _ _ h => h) rfl rfl rfl rfl rfl h1650 <| ga_r (i := 24) (bz 34 33554431) rfl (by kernel_rfl) (by decide) rfl (r_pick1 rfl h1650) <| ga_r (i := 25) (bz 34 67108863) rfl (by kernel_rfl) (by decide) rfl (r_move) <| ga_no (i := 26) (bz 34 134217727) rfl (by kernel_rfl) (fun _ _ _ _ h => h) rfl rfl rfl rfl rfl rfl <| ga_no (i := 27) (bz 34 268435455) rfl (by kernel_rfl) (fun _ _ _ _ h => h) rfl rfl rfl rfl rfl rfl ?_
      refine ga_no (i := 28) (bz 34 536870911) rfl (by kernel_rfl) (fun _ _ _ _ h => h) rfl rfl rfl rfl rfl rfl <| ga_no (i := 29) (bz 34 1073741823) rfl (by kernel_rfl) (fun _ _ _ _ h => h) rfl rfl rfl rfl rfl rfl <| ga_no (i := 30) (bz 34 2147483647) rfl (by kernel_rfl) (fun _ _ _ _ h => h) rfl rfl rfl rfl rfl rfl <| ga_no (i := 31) (bz 34 4294967295) rfl (by kernel_rfl) (fun _ _ _ _ h => h) rfl rfl rfl rfl rfl rfl <| ga_no (i := 32) (bz 34 8589934591) rfl (by kernel_rfl) (fun _ _ _ _ h => h) rfl rfl rfl rfl rfl rfl <| ga_r (i := 33) (bz 34 17179869183) rfl (by kernel_rfl) (by decide) rfl (r_pick1 rfl rfl) <| ga_done (by kernel_rfl) <| d_then ?_
      refine c_flat [(0, .slice Ap0_0 p0.length cp0_0), (5, .bool x2), (7, .int .i64 i1019), (9, .pointer (some ⟨g30, 0, none⟩)), (10, .pointer (some ⟨g31, 0, none⟩)), (11, .int .i64 i1020), (13, .pointer (some ⟨g1506, 0, none⟩)), (159, .bool true)] ⟨rfl, rfl, rfl, rfl, rfl, rfl, rfl, rfl, trivial⟩ (fun u => ?_)
      refine c_cond1 rfl rfl <| c_seq <| c_region <| g_v rfl r_assign <| g_nil <| d_then <| c_ret <| d_ret_then <| d_ret_block <| d_ret_then ?_
      refine d_ret_then <| d_ret_block <| d_ret_then <| d_ret_then ?_
      replace hm := nx_out (C := (fun e : Unit ⊕ Bool => Sum.elim (fun e => m_law12_RaftVotes_j1 x2) (fun x => some x) e = some r)) hm hnx2 hr2
      replace hm : some false = some r := hm
      cases hm
      exact d_retC () Try.results4 (res_tmp (res_nil rfl)) trivial (fun W h => ok_pre (H1 := [_, _, _]) (R1 := []) h (fun W hφ => (q11 _ (q13 _ (q29 _ (q1368 _ (q1420 _ (q1532 _ hφ)))))))) (.inr rfl)
     replace hm := ite_f hm (bool_nt h1650)
     refine ga_do (i := 18) (bz 34 524287) rfl (by kernel_rfl) (fun _ _ _ _ h => h) rfl rfl rfl rfl rfl h1650 (r_field (n := 5) Try.underlying43 rfl Try.sizeOf40 rfl rfl) <| ga_do (i := 19) (bz 34 1048575) rfl (by kernel_rfl) (fun _ _ _ _ h => h) rfl rfl rfl rfl rfl h1650 (r_field (n := 5) Try.underlying40 rfl Try.sizeOf3 rfl rfl) <| ga_do (i := 20) (bz 34 2097151) rfl (by kernel_rfl) (fun _ _ _ _ h => h) rfl rfl rfl rfl rfl h1650 (r_load (tag := 100090) rfl rfl rfl Try.isAgg3) <| ga_rG (i := 21) (bz 34 4194303) rfl (by kernel_rfl) (by decide) rfl rfl rfl rfl rfl h1650 (r_field (n := 3) Try.underlying25 rfl Try.sizeOf3 rfl rfl) <| ga_rG (i := 22) (bz 34 8388607) rfl (by kernel_rfl) (by decide) rfl rfl rfl rfl rfl h1650 (r_load (tag := 100130) rfl rfl rfl Try.isAgg3) <| ga_rG (i := 23) (bz 34 16777215) rfl (by kernel_rfl) (by decide) rfl rfl rfl rfl rfl h1650 (r_neq rfl rfl) <| ga_r (i := 24) (bz 34 33554431) rfl (by kernel_rfl) (by decide) rfl (r_pick0 rfl h1650) <| ga_r (i := 25) (bz 34 67108863) rfl (by kernel_rfl) (by decide) rfl (r_move) ?_
     refine ga_if (t := 151) rfl (fun h1651 => ?_) (fun h1651 => ?_)
     ·
      replace hm := ite_t hm (of_decide_eq_true h1651)
      refine ga_no (i := 26) (bz 34 134217727) rfl (by kernel_rfl) (fun _ _ _ _ h => h) rfl rfl rfl rfl rfl h1651 <| ga_no (i := 27) (bz 34 268435455) rfl (by kernel_rfl) (fun _ _ _ _ h => h) rfl rfl rfl rfl rfl h1651 <| ga_no (i := 28) (bz 34 536870911) rfl (by kernel_rfl) (fun _ _ _ _ h => h) rfl rfl rfl rfl rfl h1651 <| ga_no (i := 29) (bz 34 1073741823) rfl (by kernel_rfl) (fun _ _ _ _ h => h) rfl rfl rfl rfl rfl h1651 <| ga_no (i := 30) (bz 34 2147483647) rfl (by kernel_rfl) (fun _ _ _ _ h => h) rfl rfl rfl rfl rfl h1651 <| ga_no (i := 31) (bz 34 4294967295) rfl (by kernel_rfl) (fun _ _ _ _ h => h) rfl rfl rfl rfl rfl h1651 <| ga_no (i := 32) (bz 34 8589934591) rfl (by kernel_rfl) (fun _ _ _ _ h => h) rfl rfl rfl rfl rfl h1651 <| ga_r (i := 33) (bz 34 17179869183) rfl (by kernel_rfl) (by decide) rfl (r_pick1 rfl h1651) <| ga_done (by kernel_rfl) <| d_then ?_
      refine c_flat [(0, .slice Ap0_0 p0.length cp0_0), (5, .bool x2), (7, .int .i64 i1019), (9, .pointer (some ⟨g30, 0, none⟩)), (10, .pointer (some ⟨g31, 0, none⟩)), (11, .int .i64 i1020), (13, .pointer (some ⟨g1506, 0, none⟩)), (159, .bool true)] ⟨rfl, rfl, rfl, rfl, rfl, rfl, rfl, rfl, trivial⟩ (fun u => ?_)
      refine c_cond1 rfl rfl <| c_seq <| c_region <| g_v rfl r_assign <| g_nil <| d_then <| c_ret <| d_ret_then <| d_ret_block <| d_ret_then ?_
      refine d_ret_then <| d_ret_block <| d_ret_then <| d_ret_then ?_
      replace hm := nx_out (C := (fun e : Unit ⊕ Bool => Sum.elim (fun e => m_law12_RaftVotes_j1 x2) (fun x => some x) e = some r)) hm hnx2 hr2
      replace hm : some false = some r := hm
      cases hm
      exact d_retC () Try.results4 (res_tmp (res_nil rfl)) trivial (fun W h => ok_pre (H1 := [_, _, _]) (R1 := []) h (fun W hφ => (q11 _ (q13 _ (q29 _ (q1368 _ (q1420 _ (q1532 _ hφ)))))))) (.inr rfl)
     replace hm := ite_f hm (of_decide_eq_false h1651)
     refine ga_do (i := 26) (bz 34 134217727) rfl (by kernel_rfl) (fun _ _ _ _ h => h) rfl rfl rfl rfl rfl h1651 (r_field (n := 5) Try.underlying43 rfl Try.sizeOf40 rfl rfl) <| ga_do (i := 27) (bz 34 268435455) rfl (by kernel_rfl) (fun _ _ _ _ h => h) rfl rfl rfl rfl rfl h1651 (r_field (n := 6) Try.underlying40 rfl Try.sizeOf3 rfl rfl) <| ga_do (i := 28) (bz 34 536870911) rfl (by kernel_rfl) (fun _ _ _ _ h => h) rfl rfl rfl rfl rfl h1651 (r_load (tag := 100090) rfl rfl rfl Try.isAgg3) <| ga_rG (i := 29) (bz 34 1073741823) rfl (by kernel_rfl) (by decide) rfl rfl rfl rfl rfl h1651 (r_field (n := 1) Try.underlying25 rfl Try.sizeOf3 rfl rfl) <| ga_rG (i := 30) (bz 34 2147483647) rfl (by kernel_rfl) (by decide) rfl rfl rfl rfl rfl h1651 (r_load (tag := 100130) rfl rfl rfl Try.isAgg3) <| ga_rG (i := 31) (bz 34 4294967295) rfl (by kernel_rfl) (by decide) rfl rfl rfl rfl rfl h1651 (r_add rfl rfl rfl) <| ga_rG (i := 32) (bz 34 8589934591) rfl (by kernel_rfl) (by decide) rfl rfl rfl rfl rfl h1651 (r_neq rfl rfl) <| ga_r (i := 33) (bz 34 17179869183) rfl (by kernel_rfl) (by decide) rfl (r_pick0 rfl h1651) <| ga_done (by kernel_rfl) <| d_then ?_
     refine c_flat [(0, .slice Ap0_0 p0.length cp0_0), (5, .bool x2), (7, .int .i64 i1019), (9, .pointer (some ⟨g30, 0, none⟩)), (10, .pointer (some ⟨g31, 0, none⟩)), (11, .int .i64 i1020), (13, .pointer (some ⟨g1506, 0, none⟩)), (159, .bool (decide (x1512.fHard.fVote ≠ w64 (i1507 + 1))))] ⟨rfl, rfl, rfl, rfl, rfl, rfl, rfl, rfl, trivial⟩ (fun u => ?_)
     refine c_cond rfl (fun h1652 => ?_) (fun h1652 => ?_)
     ·
      replace hm := ite_t hm (of_decide_eq_true h1652)
      refine c_seq <| c_region <| g_v rfl r_assign <| g_nil <| d_then <| c_ret <| d_ret_then <| d_ret_block <| d_ret_then <| d_ret_then ?_
      refine d_ret_block <| d_ret_then <| d_ret_then ?_
      replace hm := nx_out (C := (fun e : Unit ⊕ Bool => Sum.elim (fun e => m_law12_RaftVotes_j1 x2) (fun x => some x) e = some r)) hm hnx2 hr2
      replace hm : some false = some r := hm
      cases hm
      exact d_retC () Try.results4 (res_tmp (res_nil rfl)) trivial (fun W h => ok_pre (H1 := [_, _, _]) (R1 := []) h (fun W hφ => (q11 _ (q13 _ (q29 _ (q1368 _ (q1420 _ (q1532 _ hφ)))))))) (.inr rfl)
     replace hm := ite_f hm (of_decide_eq_false h1652)
     refine c_skip <| d_then <| c_region <| g_v rfl (r_field (n := 3) Try.underlying25 rfl Try.sizeOf3 rfl rfl) <| g_v rfl (r_load (tag := 100130) rfl rfl rfl Try.isAgg3) <| g_v rfl (r_field (n := 1) Try.underlying25 rfl Try.sizeOf3 rfl rfl) <| g_v rfl (r_load (tag := 100130) rfl rfl rfl Try.isAgg3) ?_
     replace hm := bnd hm
     obtain ⟨a1653, ha1653, hm⟩ := hm
     refine g_v rfl (r_aix Try.underlying45 Try.sizeOf3 rfl rfl ha1653 rfl) ?_
     replace hm := bnd hm
     obtain ⟨l1654, hl1654, hm⟩ := hm
     refine g_s (e_stL (tag := 100100) (f := (fun x : Int => Value.int .i64 x)) (v := i1507) rfl rfl rfl rfl rfl Try.sizeOf3 rfl hl1654) <| g_nil <| d_normal_block <| d_then <| c_region <| g_v rfl r_move <| g_v rfl (r_add rfl rfl rfl) <| g_v rfl r_assign <| g_nil ?_
     obtain ⟨n1655, hn1655, hlp⟩ := nx_inl hm hnx2
     exact d_round (n1655, i1019, w64 (i1020 + 1), l1654, x1512.fMe, x1512.fRole, x1512.fLeader, x1512.fCommit, x1512.fLeft, x1512.fHard.fTerm, x1512.fHard.fVote, x1512.fHard.fVoters, x1512.fHard.fSnap, x1512.fHard.fLog.fBase, x1512.fHard.fLog.fBaseTerm, x1512.fHard.fLog.fEntries, x1512.fVotes, x1512.fMarks, A1515, c1516, A1518, c1519, A1521, c1522, A1524, c1525) ⟨hlp, hc1516, hc1519, hc1522, hc1525⟩ hn1655 ⟨rfl, rfl, rfl, rfl, rfl, rfl, trivial⟩ (fun W h => (h.dropH (t := 100130) rfl).phi (fun W hφ => ⟨(q1368 _ (q1420 _ (q1532 _ hφ))), (fun W h => f1517 W h) W hφ, (fun W h => f1520 W h) W hφ, (fun W h => f1523 W h) W hφ, (fun W h => f1526 W h) W hφ⟩))
    replace hm := ite_f hm (of_decide_eq_false h1646)
    refine ga_no (i := 6) (bz 34 127) rfl (by kernel_rfl) (fun _ _ _ _ h => h) rfl rfl rfl rfl rfl h1646 <| ga_no (i := 7) (bz 34 255) rfl (by kernel_rfl) (fun _ _ _ _ h => h) rfl rfl rfl rfl rfl h1646 <| ga_no (i := 8) (bz 34 511) rfl (by kernel_rfl) (fun _ _ _ _ h => h) rfl rfl rfl rfl rfl h1646 <| ga_no (i := 9) (bz 34 1023) rfl (by kernel_rfl) (fun _ _ _ _ h => h) rfl rfl rfl rfl rfl h1646 <| ga_no (i := 10) (bz 34 2047) rfl (by kernel_rfl) (fun _ _ _ _ h => h) rfl rfl rfl rfl rfl h1646 <| ga_no (i := 11) (bz 34 4095) rfl (by kernel_rfl) (fun _ _ _ _ h => h) rfl rfl rfl rfl rfl h1646 <| ga_no (i := 12) (bz 34 8191) rfl (by kernel_rfl) (fun _ _ _ _ h => h) rfl rfl rfl rfl rfl h1646 <| ga_r (i := 13) (bz 34 16383) rfl (by kernel_rfl) (by decide) rfl (r_pick0 rfl h1646) <| ga_r (i := 14) (bz 34 32767) rfl (by kernel_rfl) (by decide) rfl (r_move) <| ga_rG (i := 15) (bz 34 65535) rfl (by kernel_rfl) (by decide) rfl rfl rfl rfl rfl rfl (r_move) ?_
    refine ga_r (i := 16) (bz 34 131071) rfl (by kernel_rfl) (by decide) rfl (r_pick0 rfl rfl) <| ga_r (i := 17) (bz 34 262143) rfl (by kernel_rfl) (by decide) rfl (r_move) ?_
    refine ga_if (t := 143) rfl (fun h1656 => ?_) (fun h1656 => ?_)
    ·
     replace hm := ite_t hm h1656
     refine ga_no (i := 18) (bz 34 524287) rfl (by kernel_rfl) (fun _ _ _ _ h => h) rfl rfl rfl rfl rfl h1656 <| ga_no (i := 19) (bz 34 1048575) rfl (by kernel_rfl) (fun _ _ _ _ h => h) rfl rfl rfl rfl rfl h1656 <| ga_no (i := 20) (bz 34 2097151) rfl (by kernel_rfl) (fun _ _ _ _ h => h) rfl rfl rfl rfl rfl h1656 <| ga_no (i := 21) (bz 34 4194303) rfl (by kernel_rfl) (fun _ _ _ _ h => h) rfl rfl rfl rfl rfl h1656 <| ga_no (i := 22) (bz 34 8388607) rfl (by kernel_rfl) (fun _ _ _ _ h => h) rfl rfl rfl rfl rfl h1656 <| ga_no (i := 23) (bz 34 16777215) rfl (by kernel_rfl) (fun _ _ _ _ h => h) rfl rfl rfl rfl rfl h1656 <| ga_r (i := 24) (bz 34 33554431) rfl (by kernel_rfl) (by decide) rfl (r_pick1 rfl h1656) <| ga_r (i := 25) (bz 34 67108863) rfl (by kernel_rfl) (by decide) rfl (r_move) <| ga_no (i := 26) (bz 34 134217727) rfl (by kernel_rfl) (fun _ _ _ _ h => h) rfl rfl rfl rfl rfl rfl <| ga_no (i := 27) (bz 34 268435455) rfl (by kernel_rfl) (fun _ _ _ _ h => h) rfl rfl rfl rfl rfl rfl ?_
     refine ga_no (i := 28) (bz 34 536870911) rfl (by kernel_rfl) (fun _ _ _ _ h => h) rfl rfl rfl rfl rfl rfl <| ga_no (i := 29) (bz 34 1073741823) rfl (by kernel_rfl) (fun _ _ _ _ h => h) rfl rfl rfl rfl rfl rfl <| ga_no (i := 30) (bz 34 2147483647) rfl (by kernel_rfl) (fun _ _ _ _ h => h) rfl rfl rfl rfl rfl rfl <| ga_no (i := 31) (bz 34 4294967295) rfl (by kernel_rfl) (fun _ _ _ _ h => h) rfl rfl rfl rfl rfl rfl <| ga_no (i := 32) (bz 34 8589934591) rfl (by kernel_rfl) (fun _ _ _ _ h => h) rfl rfl rfl rfl rfl rfl <| ga_r (i := 33) (bz 34 17179869183) rfl (by kernel_rfl) (by decide) rfl (r_pick1 rfl rfl) <| ga_done (by kernel_rfl) <| d_then ?_
     refine c_flat [(0, .slice Ap0_0 p0.length cp0_0), (5, .bool x2), (7, .int .i64 i1019), (9, .pointer (some ⟨g30, 0, none⟩)), (10, .pointer (some ⟨g31, 0, none⟩)), (11, .int .i64 i1020), (13, .pointer (some ⟨g1506, 0, none⟩)), (159, .bool true)] ⟨rfl, rfl, rfl, rfl, rfl, rfl, rfl, rfl, trivial⟩ (fun u => ?_)
     refine c_cond1 rfl rfl <| c_seq <| c_region <| g_v rfl r_assign <| g_nil <| d_then <| c_ret <| d_ret_then <| d_ret_block <| d_ret_then ?_
     refine d_ret_then <| d_ret_block <| d_ret_then <| d_ret_then ?_
     replace hm := nx_out (C := (fun e : Unit ⊕ Bool => Sum.elim (fun e => m_law12_RaftVotes_j1 x2) (fun x => some x) e = some r)) hm hnx2 hr2
     replace hm : some false = some r := hm
     cases hm
     exact d_retC () Try.results4 (res_tmp (res_nil rfl)) trivial (fun W h => ok_pre (H1 := [_, _, _]) (R1 := []) h (fun W hφ => (q11 _ (q13 _ (q29 _ (q1368 _ (q1420 _ (q1532 _ hφ)))))))) (.inr rfl)
    replace hm := ite_f hm (bool_nt h1656)
    refine ga_do (i := 18) (bz 34 524287) rfl (by kernel_rfl) (fun _ _ _ _ h => h) rfl rfl rfl rfl rfl h1656 (r_field (n := 5) Try.underlying43 rfl Try.sizeOf40 rfl rfl) <| ga_do (i := 19) (bz 34 1048575) rfl (by kernel_rfl) (fun _ _ _ _ h => h) rfl rfl rfl rfl rfl h1656 (r_field (n := 5) Try.underlying40 rfl Try.sizeOf3 rfl rfl) <| ga_do (i := 20) (bz 34 2097151) rfl (by kernel_rfl) (fun _ _ _ _ h => h) rfl rfl rfl rfl rfl h1656 (r_load (tag := 100090) rfl rfl rfl Try.isAgg3) <| ga_rG (i := 21) (bz 34 4194303) rfl (by kernel_rfl) (by decide) rfl rfl rfl rfl rfl h1656 (r_field (n := 3) Try.underlying25 rfl Try.sizeOf3 rfl rfl) <| ga_rG (i := 22) (bz 34 8388607) rfl (by kernel_rfl) (by decide) rfl rfl rfl rfl rfl h1656 (r_load (tag := 100130) rfl rfl rfl Try.isAgg3) <| ga_rG (i := 23) (bz 34 16777215) rfl (by kernel_rfl) (by decide) rfl rfl rfl rfl rfl h1656 (r_neq rfl rfl) <| ga_r (i := 24) (bz 34 33554431) rfl (by kernel_rfl) (by decide) rfl (r_pick0 rfl h1656) <| ga_r (i := 25) (bz 34 67108863) rfl (by kernel_rfl) (by decide) rfl (r_move) ?_
    refine ga_if (t := 151) rfl (fun h1657 => ?_) (fun h1657 => ?_)
    ·
     replace hm := ite_t hm (of_decide_eq_true h1657)
     refine ga_no (i := 26) (bz 34 134217727) rfl (by kernel_rfl) (fun _ _ _ _ h => h) rfl rfl rfl rfl rfl h1657 <| ga_no (i := 27) (bz 34 268435455) rfl (by kernel_rfl) (fun _ _ _ _ h => h) rfl rfl rfl rfl rfl h1657 <| ga_no (i := 28) (bz 34 536870911) rfl (by kernel_rfl) (fun _ _ _ _ h => h) rfl rfl rfl rfl rfl h1657 <| ga_no (i := 29) (bz 34 1073741823) rfl (by kernel_rfl) (fun _ _ _ _ h => h) rfl rfl rfl rfl rfl h1657 <| ga_no (i := 30) (bz 34 2147483647) rfl (by kernel_rfl) (fun _ _ _ _ h => h) rfl rfl rfl rfl rfl h1657 <| ga_no (i := 31) (bz 34 4294967295) rfl (by kernel_rfl) (fun _ _ _ _ h => h) rfl rfl rfl rfl rfl h1657 <| ga_no (i := 32) (bz 34 8589934591) rfl (by kernel_rfl) (fun _ _ _ _ h => h) rfl rfl rfl rfl rfl h1657 <| ga_r (i := 33) (bz 34 17179869183) rfl (by kernel_rfl) (by decide) rfl (r_pick1 rfl h1657) <| ga_done (by kernel_rfl) <| d_then ?_
     refine c_flat [(0, .slice Ap0_0 p0.length cp0_0), (5, .bool x2), (7, .int .i64 i1019), (9, .pointer (some ⟨g30, 0, none⟩)), (10, .pointer (some ⟨g31, 0, none⟩)), (11, .int .i64 i1020), (13, .pointer (some ⟨g1506, 0, none⟩)), (159, .bool true)] ⟨rfl, rfl, rfl, rfl, rfl, rfl, rfl, rfl, trivial⟩ (fun u => ?_)
     refine c_cond1 rfl rfl <| c_seq <| c_region <| g_v rfl r_assign <| g_nil <| d_then <| c_ret <| d_ret_then <| d_ret_block <| d_ret_then ?_
     refine d_ret_then <| d_ret_block <| d_ret_then <| d_ret_then ?_
     replace hm := nx_out (C := (fun e : Unit ⊕ Bool => Sum.elim (fun e => m_law12_RaftVotes_j1 x2) (fun x => some x) e = some r)) hm hnx2 hr2
     replace hm : some false = some r := hm
     cases hm
     exact d_retC () Try.results4 (res_tmp (res_nil rfl)) trivial (fun W h => ok_pre (H1 := [_, _, _]) (R1 := []) h (fun W hφ => (q11 _ (q13 _ (q29 _ (q1368 _ (q1420 _ (q1532 _ hφ)))))))) (.inr rfl)
    replace hm := ite_f hm (of_decide_eq_false h1657)
    refine ga_do (i := 26) (bz 34 134217727) rfl (by kernel_rfl) (fun _ _ _ _ h => h) rfl rfl rfl rfl rfl h1657 (r_field (n := 5) Try.underlying43 rfl Try.sizeOf40 rfl rfl) <| ga_do (i := 27) (bz 34 268435455) rfl (by kernel_rfl) (fun _ _ _ _ h => h) rfl rfl rfl rfl rfl h1657 (r_field (n := 6) Try.underlying40 rfl Try.sizeOf3 rfl rfl) <| ga_do (i := 28) (bz 34 536870911) rfl (by kernel_rfl) (fun _ _ _ _ h => h) rfl rfl rfl rfl rfl h1657 (r_load (tag := 100090) rfl rfl rfl Try.isAgg3) <| ga_rG (i := 29) (bz 34 1073741823) rfl (by kernel_rfl) (by decide) rfl rfl rfl rfl rfl h1657 (r_field (n := 1) Try.underlying25 rfl Try.sizeOf3 rfl rfl) <| ga_rG (i := 30) (bz 34 2147483647) rfl (by kernel_rfl) (by decide) rfl rfl rfl rfl rfl h1657 (r_load (tag := 100130) rfl rfl rfl Try.isAgg3) <| ga_rG (i := 31) (bz 34 4294967295) rfl (by kernel_rfl) (by decide) rfl rfl rfl rfl rfl h1657 (r_add rfl rfl rfl) <| ga_rG (i := 32) (bz 34 8589934591) rfl (by kernel_rfl) (by decide) rfl rfl rfl rfl rfl h1657 (r_neq rfl rfl) <| ga_r (i := 33) (bz 34 17179869183) rfl (by kernel_rfl) (by decide) rfl (r_pick0 rfl h1657) <| ga_done (by kernel_rfl) <| d_then ?_
    refine c_flat [(0, .slice Ap0_0 p0.length cp0_0), (5, .bool x2), (7, .int .i64 i1019), (9, .pointer (some ⟨g30, 0, none⟩)), (10, .pointer (some ⟨g31, 0, none⟩)), (11, .int .i64 i1020), (13, .pointer (some ⟨g1506, 0, none⟩)), (159, .bool (decide (x1512.fHard.fVote ≠ w64 (i1507 + 1))))] ⟨rfl, rfl, rfl, rfl, rfl, rfl, rfl, rfl, trivial⟩ (fun u => ?_)
    refine c_cond rfl (fun h1658 => ?_) (fun h1658 => ?_)
    ·
     replace hm := ite_t hm (of_decide_eq_true h1658)
     refine c_seq <| c_region <| g_v rfl r_assign <| g_nil <| d_then <| c_ret <| d_ret_then <| d_ret_block <| d_ret_then <| d_ret_then ?_
     refine d_ret_block <| d_ret_then <| d_ret_then ?_
     replace hm := nx_out (C := (fun e : Unit ⊕ Bool => Sum.elim (fun e => m_law12_RaftVotes_j1 x2) (fun x => some x) e = some r)) hm hnx2 hr2
     replace hm : some false = some r := hm
     cases hm
     exact d_retC () Try.results4 (res_tmp (res_nil rfl)) trivial (fun W h => ok_pre (H1 := [_, _, _]) (R1 := []) h (fun W hφ => (q11 _ (q13 _ (q29 _ (q1368 _ (q1420 _ (q1532 _ hφ)))))))) (.inr rfl)
    replace hm := ite_f hm (of_decide_eq_false h1658)
    refine c_skip <| d_then <| c_region <| g_v rfl (r_field (n := 3) Try.underlying25 rfl Try.sizeOf3 rfl rfl) <| g_v rfl (r_load (tag := 100130) rfl rfl rfl Try.isAgg3) <| g_v rfl (r_field (n := 1) Try.underlying25 rfl Try.sizeOf3 rfl rfl) <| g_v rfl (r_load (tag := 100130) rfl rfl rfl Try.isAgg3) ?_
    replace hm := bnd hm
    obtain ⟨a1659, ha1659, hm⟩ := hm
    refine g_v rfl (r_aix Try.underlying45 Try.sizeOf3 rfl rfl ha1659 rfl) ?_
    replace hm := bnd hm
    obtain ⟨l1660, hl1660, hm⟩ := hm
    refine g_s (e_stL (tag := 100100) (f := (fun x : Int => Value.int .i64 x)) (v := i1507) rfl rfl rfl rfl rfl Try.sizeOf3 rfl hl1660) <| g_nil <| d_normal_block <| d_then <| c_region <| g_v rfl r_move <| g_v rfl (r_add rfl rfl rfl) <| g_v rfl r_assign <| g_nil ?_
    obtain ⟨n1661, hn1661, hlp⟩ := nx_inl hm hnx2
    exact d_round (n1661, i1019, w64 (i1020 + 1), l1660, x1512.fMe, x1512.fRole, x1512.fLeader, x1512.fCommit, x1512.fLeft, x1512.fHard.fTerm, x1512.fHard.fVote, x1512.fHard.fVoters, x1512.fHard.fSnap, x1512.fHard.fLog.fBase, x1512.fHard.fLog.fBaseTerm, x1512.fHard.fLog.fEntries, x1512.fVotes, x1512.fMarks, A1515, c1516, A1518, c1519, A1521, c1522, A1524, c1525) ⟨hlp, hc1516, hc1519, hc1522, hc1525⟩ hn1661 ⟨rfl, rfl, rfl, rfl, rfl, rfl, trivial⟩ (fun W h => (h.dropH (t := 100130) rfl).phi (fun W hφ => ⟨(q1368 _ (q1420 _ (q1532 _ hφ))), (fun W h => f1517 W h) W hφ, (fun W h => f1520 W h) W hφ, (fun W h => f1523 W h) W hφ, (fun W h => f1526 W h) W hφ⟩))
   replace hm := ite_f hm (of_decide_eq_false h1370)
   refine c_exit <| d_exit_then <| d_exit_then <| d_exit_block ?_
   replace hm := nx_out (C := (fun e : Unit ⊕ Bool => Sum.elim (fun e => m_law12_RaftVotes_j1 x2) (fun x => some x) e = some r)) hm hnx2 hr2
   exact d_round () hm Nat.zero_lt_one ⟨rfl, trivial⟩ (fun W h => ((h.dropH (t := 100100) rfl).dropH (t := 100090) rfl).phi (fun W hφ => (q1368 _ hφ)))
  replace hm := ite_f hm (of_decide_eq_false h1369)
  refine g_no rfl rfl rfl rfl rfl h1369 <| g_v rfl (r_pick0 rfl h1369) <| g_nil <| d_then <| c_cond0 rfl rfl <| c_exit <| d_exit_then <| d_exit_then <| d_exit_block ?_
  replace hm := nx_out (C := (fun e : Unit ⊕ Bool => Sum.elim (fun e => m_law12_RaftVotes_j1 x2) (fun x => some x) e = some r)) hm hnx2 hr2
  exact d_round () hm Nat.zero_lt_one ⟨rfl, trivial⟩ (fun W h => ((h.dropH (t := 100100) rfl).dropH (t := 100090) rfl).phi (fun W hφ => (q1368 _ hφ)))
 unfold m_law12_RaftVotes_j1 at hm
 refine d_flat [(5, .bool x2)] ⟨rfl, trivial⟩ (fun u => ?_)
 refine d_sta ⟨w0, M, H, R, φ29⟩ (fun _ h => h) <| d_then <| c_seq <| c_region <| g_v rfl r_move <| g_v rfl r_assign <| g_nil <| d_then <| c_ret ?_
 cases hm
 exact d_retC () Try.results4 (res_tmp (res_nil rfl)) trivial (fun W h => ok_pre (H1 := []) (R1 := []) h (fun W hφ => (q11 _ (q13 _ (q29 _ hφ))))) (.inr rfl)
end Go.Proofs.Ytoglbdaagfoddaa
