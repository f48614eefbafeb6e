import Derived.Test.YtoglbdaagfoddaaWRTD
set_option maxRecDepth 100000
set_option maxHeartbeats 4000000
set_option linter.unusedVariables false
set_option linter.unusedSimpArgs false
namespace Go.Proofs.Ytoglbdaagfoddaa
open Go.RowKit Go.Proofs.YtoglbdaagfoddaaW.PrintLast
noncomputable def m_law12_RaftCuts_j4 (x215 : GRaft) (i188 : Int) (i189 : Int) (i190 : Int) (i191 : Int) (i192 : Int) (i193 : Int) (i194 : Int) (l195 : List Int) (s199 : ByteArray) (i200 : Int) (i201 : Int) (l202 : List GEntry) (l206 : List Int) (l210 : List GMark) (x1 : Bool) (s5 : ByteArray) (p1 : Int) (i187 : Int) : Option Bool :=
  (m_ref12_Voters x215).bind fun x286 =>
  (m_ref12_Voters (⟨i188, i189, i190, i191, i192, (⟨i193, i194, l195, s199, (⟨i200, i201, l202⟩ : GLog)⟩ : GHard), l206, l210⟩ : GRaft)).bind fun x292 =>
  (m_ref11_SameInts x286 x292).bind fun x298 =>
  if x1 = true then
    if x298 = true then
      if x215.fCommit = i191 then
        if x215.fHard.fTerm = i193 then
          if x215.fHard.fSnap = s5 then
            if x215.fHard.fLog.fBase = p1 then
              (m_plog_Last x215.fHard.fLog).bind fun x306 =>
              some (decide (x306 = w64 (i187 + 1)))
            else
              some false
          else
            some false
        else
          some false
      else
        some false
    else
      some false
  else
    some false
noncomputable def m_law12_RaftCuts_s5 (i187 : Int) (i200 : Int) (i201 : Int) (l202 : List GEntry) (x215 : GRaft) (i308 : Int) : Option (Int ⊕ (Unit ⊕ Bool)) :=
  if i308 ≤ w64 (i187 + 1) then
    (m_plog_Get (⟨i200, i201, l202⟩ : GLog) i308).bind fun (z329 : GEntry × Bool) =>
    (m_plog_Get x215.fHard.fLog i308).bind fun (z334 : GEntry × Bool) =>
    if z329.1 = z334.1 then
      if z329.2 = true then
        if z334.2 = true then
          some (.inl (w64 (i308 + 1)))
        else
          some (.inr (.inr false))
      else
        some (.inr (.inr false))
    else
      some (.inr (.inr false))
  else
    some (.inr (.inl ()))
noncomputable def m_law12_RaftCuts_j3 (x216 : Int) (x215 : GRaft) (i188 : Int) (i189 : Int) (i190 : Int) (i191 : Int) (i192 : Int) (i193 : Int) (i194 : Int) (l195 : List Int) (s199 : ByteArray) (i200 : Int) (i201 : Int) (l202 : List GEntry) (l206 : List Int) (l210 : List GMark) (x1 : Bool) (i187 : Int) (p1 : Int) (s5 : ByteArray) : Option Bool :=
  if x216 ≠ 0 then
    (m_ref12_Same x215 (⟨i188, i189, i190, i191, i192, (⟨i193, i194, l195, s199, (⟨i200, i201, l202⟩ : GLog)⟩ : GHard), l206, l210⟩ : GRaft)).bind fun x237 =>
    if x1 = true then
      if x216 = 1 then
        some x237
      else
        some false
    else
      some false
  else
    (loop (fun s => m_law12_RaftCuts_s5 i187 i200 i201 l202 x215 s) (w64 (p1 + 1))).bind fun e => Sum.elim (fun e => m_law12_RaftCuts_j4 x215 i188 i189 i190 i191 i192 i193 i194 l195 s199 i200 i201 l202 l206 l210 x1 s5 p1 i187) (fun x => some x) e
noncomputable def m_law12_RaftCuts_j2 (p1 : Int) (s5 : ByteArray) (x1 : Bool) (i187 : Int) (i188 : Int) (i189 : Int) (i190 : Int) (i191 : Int) (i192 : Int) (i193 : Int) (i194 : Int) (l195 : List Int) (s199 : ByteArray) (i200 : Int) (i201 : Int) (l202 : List GEntry) (l206 : List Int) (l210 : List GMark) : Option Bool :=
  (m_raft_Compact (⟨i188, i189, i190, i191, i192, (⟨i193, i194, l195, s199, (⟨i200, i201, l202⟩ : GLog)⟩ : GHard), l206, l210⟩ : GRaft) p1 s5).bind fun (z231 : GRaft × Int) =>
  if 1 ≤ p1 then
    if (!((decide (z231.2 = 0)) == (decide (p1 ≤ w64 (i187 + 1))))) = true then
      some false
    else
      m_law12_RaftCuts_j3 z231.2 z231.1 i188 i189 i190 i191 i192 i193 i194 l195 s199 i200 i201 l202 l206 l210 x1 i187 p1 s5
  else
    if (!((decide (z231.2 = 0)) == false)) = true then
      some false
    else
      m_law12_RaftCuts_j3 z231.2 z231.1 i188 i189 i190 i191 i192 i193 i194 l195 s199 i200 i201 l202 l206 l210 x1 i187 p1 s5
noncomputable def m_law12_RaftCuts_s6  (i398 : Int) (i399 : Int) (i400 : Int) (i401 : Int) (i402 : Int) (i403 : Int) (i404 : Int) (i405 : Int) (i406 : Int) (l407 : List Int) (s411 : ByteArray) (i412 : Int) (i413 : Int) (l414 : List GEntry) (l418 : List Int) (l422 : List GMark) : Option ((Int × Int × Int × Int × Int × Int × Int × Int × Int × (List Int) × ByteArray × Int × Int × (List GEntry) × (List Int) × (List GMark)) ⊕ (Int × Int × Int × Int × Int × Int × Int × Int × (List Int) × ByteArray × Int × Int × (List GEntry) × (List Int) × (List GMark))) :=
  if i399 < i398 then
    (m_raft_Propose (⟨i400, i401, i402, i403, i404, (⟨i405, i406, l407, s411, (⟨i412, i413, l414⟩ : GLog)⟩ : GHard), l418, l422⟩ : GRaft) 0 (strOfNums [IntKind.u8.wrap i399])).bind fun (z507 : GRaft × (List GNote) × Int × Int) =>
    some (.inl (i398, w64 (i399 + 1), z507.1.fMe, z507.1.fRole, z507.1.fLeader, z507.1.fCommit, z507.1.fLeft, z507.1.fHard.fTerm, z507.1.fHard.fVote, z507.1.fHard.fVoters, z507.1.fHard.fSnap, z507.1.fHard.fLog.fBase, z507.1.fHard.fLog.fBaseTerm, z507.1.fHard.fLog.fEntries, z507.1.fVotes, z507.1.fMarks))
  else
    some (.inr (i398, i400, i401, i402, i403, i404, i405, i406, l407, s411, i412, i413, l414, l418, l422))
noncomputable def m_law12_RaftCuts_j1 (p0 : Int) (p1 : Int) (x1 : Bool) (s5 : ByteArray) : Option Bool :=
  (m_raft_New 0 (⟨0, 0, [0], (⟨#[]⟩ : ByteArray), (⟨0, 0, ([] : List GEntry)⟩ : GLog)⟩ : GHard) 0).bind fun x9 =>
  (m_raft_Tick x9 3).bind fun (z45 : GRaft × (List GNote)) =>
  (m_law12_pick p0 30).bind fun x47 =>
  (loop (fun s => m_law12_RaftCuts_s6 s.1 s.2.1 s.2.2.1 s.2.2.2.1 s.2.2.2.2.1 s.2.2.2.2.2.1 s.2.2.2.2.2.2.1 s.2.2.2.2.2.2.2.1 s.2.2.2.2.2.2.2.2.1 s.2.2.2.2.2.2.2.2.2.1 s.2.2.2.2.2.2.2.2.2.2.1 s.2.2.2.2.2.2.2.2.2.2.2.1 s.2.2.2.2.2.2.2.2.2.2.2.2.1 s.2.2.2.2.2.2.2.2.2.2.2.2.2.1 s.2.2.2.2.2.2.2.2.2.2.2.2.2.2.1 s.2.2.2.2.2.2.2.2.2.2.2.2.2.2.2) (w64 (1 + x47), 0, z45.1.fMe, z45.1.fRole, z45.1.fLeader, z45.1.fCommit, z45.1.fLeft, z45.1.fHard.fTerm, z45.1.fHard.fVote, z45.1.fHard.fVoters, z45.1.fHard.fSnap, z45.1.fHard.fLog.fBase, z45.1.fHard.fLog.fBaseTerm, z45.1.fHard.fLog.fEntries, z45.1.fVotes, z45.1.fMarks)).bind fun e => m_law12_RaftCuts_j2 p1 s5 x1 e.1 e.2.1 e.2.2.1 e.2.2.2.1 e.2.2.2.2.1 e.2.2.2.2.2.1 e.2.2.2.2.2.2.1 e.2.2.2.2.2.2.2.1 e.2.2.2.2.2.2.2.2.1 e.2.2.2.2.2.2.2.2.2.1 e.2.2.2.2.2.2.2.2.2.2.1 e.2.2.2.2.2.2.2.2.2.2.2.1 e.2.2.2.2.2.2.2.2.2.2.2.2.1 e.2.2.2.2.2.2.2.2.2.2.2.2.2.1 e.2.2.2.2.2.2.2.2.2.2.2.2.2.2
noncomputable def m_law12_RaftCuts (p0 : Int) (p1 : Int) (p2 : ByteArray) : Option Bool :=
  (m_law12_awake).bind fun x1 =>
  if 100 < (p2.size : Int) then
    (scutHi p2 100).bind fun s510 =>
    m_law12_RaftCuts_j1 p0 p1 x1 s510
  else
    m_law12_RaftCuts_j1 p0 p1 x1 p2
theorem c_law12_RaftCuts {w0 : World} {M : Nat → Prop} {H : List (Nat × Nat × Obj)} {R : List (Nat × Row)} {φ : World → Prop} (p0 : Int) (p1 : Int) (p2 : ByteArray) (r : Bool) (hm : m_law12_RaftCuts p0 p1 p2 = some r) :
    Cn Try.prog 8 #[.int .i64 p0, .int .i64 p1, .string p2] ⟨w0, M, H, R, φ⟩ (fun x : Unit => .bool r) (fun x => True) (fun x => ⟨w0, M, H, R, φ⟩) := by
 unfold m_law12_RaftCuts at hm
 refine cn_intro (fn := Try.f8) (N := 168) Try.func8 rfl Try.ntmps8 rfl <| c_seq <| c_region <| g_v rfl r_assign <| g_nil <| d_then <| c_seq <| c_region ?_
 replace hm := bnd hm
 obtain ⟨x1, hx2, hm⟩ := hm
 refine g_cn ⟨w0, M, _, _, φ⟩ (fun _ h => h) Try.call9 rfl rfl (c_law12_awake  _ hx2) (fun _ _ => ?_)
 refine g_v rfl r_assign <| g_nil <| d_then <| c_seq ?_
 refine c_cut (ι := ByteArray) [0, 1, 2, 7] (fun s5 => [(2, .string s5)]) (fun s5 => ⟨w0, M, H, R, φ⟩) (fun s5 => m_law12_RaftCuts_j1 p0 p1 x1 s5 = some r) ?_ (fun s5 u hm => ?_)
 ·
  refine c_seq <| c_region <| g_v rfl r_move <| g_v rfl (r_len Try.underlying9 rfl) <| g_v rfl (r_gtr rfl rfl) <| g_nil <| d_then ?_
  refine c_cond rfl (fun h509 => ?_) (fun h509 => ?_)
  ·
   replace hm := ite_t hm (of_decide_eq_true h509)
   refine c_region <| g_v rfl r_move ?_
   replace hm := bnd hm
   obtain ⟨s510, hs510, hm⟩ := hm
   refine g_v rfl (r_scutHi Try.underlying9 rfl rfl hs510) <| g_v rfl r_assign <| g_nil ?_
   exact d_round s510 hm Nat.zero_lt_one ⟨rfl, rfl, rfl, rfl, trivial⟩ (fun W h => h.phi (fun W hφ => hφ))
  replace hm := ite_f hm (of_decide_eq_false h509)
  refine c_skip ?_
  exact d_round p2 hm Nat.zero_lt_one ⟨rfl, rfl, rfl, rfl, trivial⟩ (fun W h => h.phi (fun W hφ => hφ))
 unfold m_law12_RaftCuts_j1 at hm
 refine d_flat [(0, .int .i64 p0), (1, .int .i64 p1), (2, .string s5), (7, .bool x1)] ⟨rfl, rfl, rfl, rfl, trivial⟩ (fun u => ?_)
 refine d_sta ⟨w0, M, H, R, φ⟩ (fun _ h => h) <| d_then <| c_seq <| c_region ?_
 refine g_e rfl (e_lit (tag := 100280) (l := [0]) (enc := (fun x : Int => [Value.int .i64 x])) (sz := 1) rfl Try.underlying23 (lit3_0 _) rfl rfl (fun _ => rfl)) (fun g6 _ => ?_)
 refine g_v rfl (r_build _ rfl (bld40_1 _ _ _)) ?_
 refine g_shut (tag := 100280) rfl (fun φ7 q7' => ?_)
 have q7 : ∀ W, φ7 W → φ W := fun W h => (q7' W h).1
 have f8 := fun (W : World) (h : φ7 W) => (q7' W h).2
 replace hm := bnd hm
 obtain ⟨x9, hx10, hm⟩ := hm
 refine g_cn ⟨w0, M, _, _, φ7⟩ (fun _ h => h) Try.call16 rfl rfl (c_raft_New 0 (⟨0, 0, [0], (⟨#[]⟩ : ByteArray), (⟨0, 0, ([] : List GEntry)⟩ : GLog)⟩ : GHard) (some ⟨g6, 0, none⟩) 1 (Nat.le_refl _) (fun W h => f8 W h) none 0 (Nat.le_refl 0) (fun W _ => Cl.nil _ _) 0 _ hx10) (fun ⟨A11, c12, A14, c15, A17, c18, A20, c21⟩ ⟨hc12, hc15, hc18, hc21⟩ => ?_)
 refine g_abs (fun φ23 q23' => ?_)
 have q23 : ∀ W, φ23 W → φ7 W := fun W h => (q23' W h).1
 have f13 := fun (W : World) (h : φ23 W) => (q23' W h).2.1
 have f16 := fun (W : World) (h : φ23 W) => (q23' W h).2.2.1
 have f19 := fun (W : World) (h : φ23 W) => (q23' W h).2.2.2.1
 have f22 := fun (W : World) (h : φ23 W) => (q23' W h).2.2.2.2
 replace hm := bnd hm
 obtain ⟨⟨x24, x25⟩, hx26, hm⟩ := hm
 refine g_cn ⟨w0, M, _, _, φ23⟩ (fun _ h => h) Try.call18 rfl rfl (c_raft_Tick x9 A11 c12 hc12 (fun W h => f13 W h) A14 c15 hc15 (fun W h => f16 W h) A17 c18 hc18 (fun W h => f19 W h) A20 c21 hc21 (fun W h => f22 W h) 3 _ hx26) (fun ⟨A27, c28, A30, c31, A33, c34, A36, c37, A39, c40, ps42⟩ ⟨hc28, hc31, hc34, hc37, hc40⟩ => ?_)
 refine g_sta _ (fun W h => (ok_frontR (t := 2004) (t' := 100314) h rfl)) ?_
 refine g_abs (fun φ44 q44' => ?_)
 have q44 : ∀ W, φ44 W → φ23 W := fun W h => (q44' W h).1
 have f29 := fun (W : World) (h : φ44 W) => (q44' W h).2.1
 have f32 := fun (W : World) (h : φ44 W) => (q44' W h).2.2.1
 have f35 := fun (W : World) (h : φ44 W) => (q44' W h).2.2.2.1
 have f38 := fun (W : World) (h : φ44 W) => (q44' W h).2.2.2.2.1
 have f43 := fun (W : World) (h : φ44 W) => (q44' W h).2.2.2.2.2
 refine g_v rfl r_move <| g_v rfl (r_extract rfl rfl) <| g_v rfl (r_extract rfl rfl) ?_
 refine g_e rfl (e_alloc 100080 Try.zeroValue43) (fun g46 _ => ?_)
 refine g_storeL (tag := 100080) rfl rfl rfl rfl Try.sizeOf43 rfl rfl <| g_v rfl r_assign <| g_nil <| d_then ?_
 refine c_flat [(0, .int .i64 p0), (1, .int .i64 p1), (2, .string s5), (7, .bool x1), (8, .pointer (some ⟨g46, 0, none⟩))] ⟨rfl, rfl, rfl, rfl, rfl, trivial⟩ (fun u => ?_)
 refine c_sta ⟨w0, M, (100080, g46, .cells #[.int .i64 x24.fMe, .int .i64 x24.fRole, .int .i64 x24.fLeader, .int .i64 x24.fCommit, .int .i64 x24.fLeft, .int .i64 x24.fHard.fTerm, .int .i64 x24.fHard.fVote, .slice A27 x24.fHard.fVoters.length c28, .string x24.fHard.fSnap, .int .i64 x24.fHard.fLog.fBase, .int .i64 x24.fHard.fLog.fBaseTerm, .slice A30 x24.fHard.fLog.fEntries.length c31, .slice A33 x24.fVotes.length c34, .slice A36 x24.fMarks.length c37] 43 (0, 0)) :: H, (100314, ⟨.slice A39 x25.length c40, 25, 11, x25.length, (x25.zip ps42).flatMap GNote.encP⟩) :: R, φ44⟩ (fun _ h => h) <| c_seq <| c_region <| g_v rfl r_move ?_
 replace hm := bnd hm
 obtain ⟨x47, hx48, hm⟩ := hm
 refine g_cn ⟨w0, M, _, _, φ44⟩ (fun _ h => h) Try.call15 rfl rfl (c_law12_pick p0 30 _ hx48) (fun _ _ => ?_)
 refine g_v rfl (r_add rfl rfl rfl) <| g_v rfl r_assign <| g_nil <| d_then <| c_seq <| c_seq <| c_region <| g_v rfl r_assign <| g_nil <| d_then ?_
 refine c_cut (ι := Int × Int × Int × Int × Int × Int × Int × Int × (List Int) × ByteArray × Int × Int × (List GEntry) × (List Int) × (List GMark) × Option Addr × Nat × Option Addr × Nat × Option Addr × Nat × Option Addr × Nat) [1, 2, 7, 8, 10] (fun ⟨i187, i188, i189, i190, i191, i192, i193, i194, l195, s199, i200, i201, l202, l206, l210, A196, c197, A203, c204, A207, c208, A211, c212⟩ => [(10, .int .i64 i187)]) (fun ⟨i187, i188, i189, i190, i191, i192, i193, i194, l195, s199, i200, i201, l202, l206, l210, A196, c197, A203, c204, A207, c208, A211, c212⟩ => ⟨w0, M, (100080, g46, .cells #[.int .i64 i188, .int .i64 i189, .int .i64 i190, .int .i64 i191, .int .i64 i192, .int .i64 i193, .int .i64 i194, .slice A196 l195.length c197, .string s199, .int .i64 i200, .int .i64 i201, .slice A203 l202.length c204, .slice A207 l206.length c208, .slice A211 l210.length c212] 43 (0, 0)) :: H, R, fun W => φ44 W ∧ Cl W A196 (l195.flatMap (fun x : Int => [Value.int .i64 x])) ∧ Cl W A203 (l202.flatMap GEntry.enc) ∧ Cl W A207 (l206.flatMap (fun x : Int => [Value.int .i64 x])) ∧ Cl W A211 (l210.flatMap GMark.enc)⟩) (fun ⟨i187, i188, i189, i190, i191, i192, i193, i194, l195, s199, i200, i201, l202, l206, l210, A196, c197, A203, c204, A207, c208, A211, c212⟩ => m_law12_RaftCuts_j2 p1 s5 x1 i187 i188 i189 i190 i191 i192 i193 i194 l195 s199 i200 i201 l202 l206 l210 = some r ∧ l195.length ≤ c197 ∧ l202.length ≤ c204 ∧ l206.length ≤ c208 ∧ l210.length ≤ c212) ?_ (fun ⟨i187, i188, i189, i190, i191, i192, i193, i194, l195, s199, i200, i201, l202, l206, l210, A196, c197, A203, c204, A207, c208, A211, c212⟩ u ⟨hm, hc197, hc204, hc208, hc212⟩ => ?_)
 ·
  refine c_block ?_
  replace hm := bnd hm
  obtain ⟨out6, hl6, hr6⟩ := hm
  obtain ⟨n480', hl6⟩ := loop_lp hl6
  refine c_loopU (ι := Nat × Int × Int × Int × Int × Int × Int × Int × Int × Int × (List Int) × ByteArray × Int × Int × (List GEntry) × (List Int) × (List GMark) × Option Addr × Nat × Option Addr × Nat × Option Addr × Nat × Option Addr × Nat) [1, 2, 7, 8, 10, 11] (fun ⟨n480, i398, i399, i400, i401, i402, i403, i404, i405, i406, l407, s411, i412, i413, l414, l418, l422, A408, c409, A415, c416, A419, c420, A423, c424⟩ => [(10, .int .i64 i398), (11, .int .i64 i399)]) (fun ⟨n480, i398, i399, i400, i401, i402, i403, i404, i405, i406, l407, s411, i412, i413, l414, l418, l422, A408, c409, A415, c416, A419, c420, A423, c424⟩ => ⟨w0, M, (100080, g46, .cells #[.int .i64 i400, .int .i64 i401, .int .i64 i402, .int .i64 i403, .int .i64 i404, .int .i64 i405, .int .i64 i406, .slice A408 l407.length c409, .string s411, .int .i64 i412, .int .i64 i413, .slice A415 l414.length c416, .slice A419 l418.length c420, .slice A423 l422.length c424] 43 (0, 0)) :: H, R, fun W => φ44 W ∧ Cl W A408 (l407.flatMap (fun x : Int => [Value.int .i64 x])) ∧ Cl W A415 (l414.flatMap GEntry.enc) ∧ Cl W A419 (l418.flatMap (fun x : Int => [Value.int .i64 x])) ∧ Cl W A423 (l422.flatMap GMark.enc)⟩) (fun ⟨n480, i398, i399, i400, i401, i402, i403, i404, i405, i406, l407, s411, i412, i413, l414, l418, l422, A408, c409, A415, c416, A419, c420, A423, c424⟩ => Lp (fun s => m_law12_RaftCuts_s6 s.1 s.2.1 s.2.2.1 s.2.2.2.1 s.2.2.2.2.1 s.2.2.2.2.2.1 s.2.2.2.2.2.2.1 s.2.2.2.2.2.2.2.1 s.2.2.2.2.2.2.2.2.1 s.2.2.2.2.2.2.2.2.2.1 s.2.2.2.2.2.2.2.2.2.2.1 s.2.2.2.2.2.2.2.2.2.2.2.1 s.2.2.2.2.2.2.2.2.2.2.2.2.1 s.2.2.2.2.2.2.2.2.2.2.2.2.2.1 s.2.2.2.2.2.2.2.2.2.2.2.2.2.2.1 s.2.2.2.2.2.2.2.2.2.2.2.2.2.2.2) n480 (i398, i399, i400, i401, i402, i403, i404, i405, i406, l407, s411, i412, i413, l414, l418, l422) out6 ∧ l407.length ≤ c409 ∧ l414.length ≤ c416 ∧ l418.length ≤ c420 ∧ l422.length ≤ c424) (fun ⟨n480, i398, i399, i400, i401, i402, i403, i404, i405, i406, l407, s411, i412, i413, l414, l418, l422, A408, c409, A415, c416, A419, c420, A423, c424⟩ => n480) (n480', w64 (1 + x47), 0, x24.fMe, x24.fRole, x24.fLeader, x24.fCommit, x24.fLeft, x24.fHard.fTerm, x24.fHard.fVote, x24.fHard.fVoters, x24.fHard.fSnap, x24.fHard.fLog.fBase, x24.fHard.fLog.fBaseTerm, x24.fHard.fLog.fEntries, x24.fVotes, x24.fMarks, A27, c28, A30, c31, A33, c34, A36, c37) ⟨hl6, hc28, hc31, hc34, hc37⟩ ⟨rfl, rfl, rfl, rfl, rfl, rfl, trivial⟩ (fun W h => (h.dropR (t := 100314) rfl).phi (fun W hφ => ⟨hφ, (fun W h => f29 W h) W hφ, (fun W h => f32 W h) W hφ, (fun W h => f35 W h) W hφ, (fun W h => f38 W h) W hφ⟩)) (fun ⟨n480, i398, i399, i400, i401, i402, i403, i404, i405, i406, l407, s411, i412, i413, l414, l418, l422, A408, c409, A415, c416, A419, c420, A423, c424⟩ u ⟨hlp, hc409, hc416, hc420, hc424⟩ => ?_)
  obtain ⟨o6, hm, hnx6⟩ := lp_step hlp
  clear hlp
  replace hm : m_law12_RaftCuts_s6 i398 i399 i400 i401 i402 i403 i404 i405 i406 l407 s411 i412 i413 l414 l418 l422 = some o6 := hm
  unfold m_law12_RaftCuts_s6 at hm
  refine c_abs (fun φ481 q481' => ?_)
  have q481 : ∀ W, φ481 W → φ44 W := fun W h => (q481' W h).1
  have f410 := fun (W : World) (h : φ481 W) => (q481' W h).2.1
  have f417 := fun (W : World) (h : φ481 W) => (q481' W h).2.2.1
  have f421 := fun (W : World) (h : φ481 W) => (q481' W h).2.2.2.1
  have f425 := fun (W : World) (h : φ481 W) => (q481' W h).2.2.2.2
  refine c_flat [(1, .int .i64 p1), (2, .string s5), (7, .bool x1), (8, .pointer (some ⟨g46, 0, none⟩)), (10, .int .i64 i398), (11, .int .i64 i399)] ⟨rfl, rfl, rfl, rfl, rfl, rfl, trivial⟩ (fun u => ?_)
  refine c_sta ⟨w0, M, (100080, g46, .cells #[.int .i64 i400, .int .i64 i401, .int .i64 i402, .int .i64 i403, .int .i64 i404, .int .i64 i405, .int .i64 i406, .slice A408 l407.length c409, .string s411, .int .i64 i412, .int .i64 i413, .slice A415 l414.length c416, .slice A419 l418.length c420, .slice A423 l422.length c424] 43 (0, 0)) :: H, R, φ481⟩ (fun _ h => h) <| c_seq <| c_seq <| c_region <| g_v rfl r_move <| g_v rfl r_move <| g_v rfl (r_lss rfl rfl) <| g_nil <| d_then ?_
  refine c_cond rfl (fun h482 => ?_) (fun h482 => ?_)
  ·
   replace hm := ite_t hm (of_decide_eq_true h482)
   refine c_skip <| d_then <| c_seq <| c_block <| c_region <| g_v rfl (r_loadA (tag := 100080) rfl rfl Try.isAgg43 Try.sizeOf43 rfl rfl) <| g_v rfl r_move <| g_v rfl (r_conv Try.underlying3 Try.underlying5 rfl rfl) ?_
   refine g_e rfl (e_lit (tag := 100460) (l := [IntKind.u8.wrap i399]) (enc := (fun x : Int => [Value.int .u8 x])) (sz := 1) rfl Try.underlying74 (lit5_24 _) rfl rfl (fun _ => rfl)) (fun g483 _ => ?_)
   refine g_v rfl (r_textE Try.underlying74 Try.underlying5 Try.underlying9 rfl (fun W hS => rowCl (tag := 100460) rfl W hS)) ?_
   replace hm := bnd hm
   obtain ⟨⟨x484, x485, x486, x487⟩, hx488, hm⟩ := hm
   refine g_cn ⟨w0, M, _, _, φ481⟩ (fun _ h => h) Try.call19 rfl rfl (c_raft_Propose (⟨i400, i401, i402, i403, i404, (⟨i405, i406, l407, s411, (⟨i412, i413, l414⟩ : GLog)⟩ : GHard), l418, l422⟩ : GRaft) A408 c409 hc409 (fun W h => f410 W h) A415 c416 hc416 (fun W h => f417 W h) A419 c420 hc420 (fun W h => f421 W h) A423 c424 hc424 (fun W h => f425 W h) 0 (strOfNums [IntKind.u8.wrap i399]) _ hx488) (fun ⟨A489, c490, A492, c493, A495, c496, A498, c499, A501, c502, ps504⟩ ⟨hc490, hc493, hc496, hc499, hc502⟩ => ?_)
   refine g_sta _ (fun W h => (ok_frontR (t := 2004) (t' := 100484) h rfl)) ?_
   refine g_abs (fun φ506 q506' => ?_)
   have q506 : ∀ W, φ506 W → φ481 W := fun W h => (q506' W h).1
   have f491 := fun (W : World) (h : φ506 W) => (q506' W h).2.1
   have f494 := fun (W : World) (h : φ506 W) => (q506' W h).2.2.1
   have f497 := fun (W : World) (h : φ506 W) => (q506' W h).2.2.2.1
   have f500 := fun (W : World) (h : φ506 W) => (q506' W h).2.2.2.2.1
   have f505 := fun (W : World) (h : φ506 W) => (q506' W h).2.2.2.2.2
   refine g_v rfl r_move ?_
   iterate 4 refine g_v rfl (r_extract rfl rfl) ?_
   refine g_storeL (tag := 100080) rfl rfl rfl rfl Try.sizeOf43 rfl rfl <| g_nil <| d_normal_block <| d_then ?_
   refine c_flat [(1, .int .i64 p1), (2, .string s5), (7, .bool x1), (8, .pointer (some ⟨g46, 0, none⟩)), (10, .int .i64 i398), (11, .int .i64 i399)] ⟨rfl, rfl, rfl, rfl, rfl, rfl, trivial⟩ (fun u => ?_)
   refine c_sta ⟨w0, M, (100080, g46, .cells #[.int .i64 x484.fMe, .int .i64 x484.fRole, .int .i64 x484.fLeader, .int .i64 x484.fCommit, .int .i64 x484.fLeft, .int .i64 x484.fHard.fTerm, .int .i64 x484.fHard.fVote, .slice A489 x484.fHard.fVoters.length c490, .string x484.fHard.fSnap, .int .i64 x484.fHard.fLog.fBase, .int .i64 x484.fHard.fLog.fBaseTerm, .slice A492 x484.fHard.fLog.fEntries.length c493, .slice A495 x484.fVotes.length c496, .slice A498 x484.fMarks.length c499] 43 (0, 0)) :: H, (100484, ⟨.slice A501 x485.length c502, 25, 11, x485.length, (x485.zip ps504).flatMap GNote.encP⟩) :: (100460, ⟨.slice (some ⟨g483, 0, none⟩) [IntKind.u8.wrap i399].length 1, 5, 1, [IntKind.u8.wrap i399].length, [IntKind.u8.wrap i399].flatMap (fun x : Int => [Value.int .u8 x])⟩) :: R, φ506⟩ (fun _ h => h) <| c_region <| g_v rfl r_move <| g_v rfl (r_add rfl rfl rfl) <| g_v rfl r_assign <| g_nil ?_
   obtain ⟨n508, hn508, hlp⟩ := nx_inl hm hnx6
   exact d_round (n508, i398, w64 (i399 + 1), x484.fMe, x484.fRole, x484.fLeader, x484.fCommit, x484.fLeft, x484.fHard.fTerm, x484.fHard.fVote, x484.fHard.fVoters, x484.fHard.fSnap, x484.fHard.fLog.fBase, x484.fHard.fLog.fBaseTerm, x484.fHard.fLog.fEntries, x484.fVotes, x484.fMarks, A489, c490, A492, c493, A495, c496, A498, c499) ⟨hlp, hc490, hc493, hc496, hc499⟩ hn508 ⟨rfl, rfl, rfl, rfl, rfl, rfl, trivial⟩ (fun W h => ((h.dropR (t := 100484) rfl).dropR (t := 100460) rfl).phi (fun W hφ => ⟨(q481 _ (q506 _ hφ)), (fun W h => f491 W h) W hφ, (fun W h => f494 W h) W hφ, (fun W h => f497 W h) W hφ, (fun W h => f500 W h) W hφ⟩))
  replace hm := ite_f hm (of_decide_eq_false h482)
  refine c_exit <| d_exit_then <| d_exit_then <| d_exit_block ?_
  replace hm := nx_out (C := (fun e : Int × Int × Int × Int × Int × Int × Int × Int × (List Int) × ByteArray × Int × Int × (List GEntry) × (List Int) × (List GMark) => m_law12_RaftCuts_j2 p1 s5 x1 e.1 e.2.1 e.2.2.1 e.2.2.2.1 e.2.2.2.2.1 e.2.2.2.2.2.1 e.2.2.2.2.2.2.1 e.2.2.2.2.2.2.2.1 e.2.2.2.2.2.2.2.2.1 e.2.2.2.2.2.2.2.2.2.1 e.2.2.2.2.2.2.2.2.2.2.1 e.2.2.2.2.2.2.2.2.2.2.2.1 e.2.2.2.2.2.2.2.2.2.2.2.2.1 e.2.2.2.2.2.2.2.2.2.2.2.2.2.1 e.2.2.2.2.2.2.2.2.2.2.2.2.2.2 = some r)) hm hnx6 hr6
  exact d_round (i398, i400, i401, i402, i403, i404, i405, i406, l407, s411, i412, i413, l414, l418, l422, A408, c409, A415, c416, A419, c420, A423, c424) ⟨hm, hc409, hc416, hc420, hc424⟩ Nat.zero_lt_one ⟨rfl, rfl, rfl, rfl, rfl, trivial⟩ (fun W h => h.phi (fun W hφ => ⟨(q481 _ hφ), (fun W h => f410 W h) W hφ, (fun W h => f417 W h) W hφ, (fun W h => f421 W h) W hφ, (fun W h => f425 W h) W hφ⟩))
 unfold m_law12_RaftCuts_j2 at hm
 refine d_abs (fun φ214 q214' => ?_)
 have q214 : ∀ W, φ214 W → φ44 W := fun W h => (q214' W h).1
 have f198 := fun (W : World) (h : φ214 W) => (q214' W h).2.1
 have f205 := fun (W : World) (h : φ214 W) => (q214' W h).2.2.1
 have f209 := fun (W : World) (h : φ214 W) => (q214' W h).2.2.2.1
 have f213 := fun (W : World) (h : φ214 W) => (q214' W h).2.2.2.2
 refine d_flat [(1, .int .i64 p1), (2, .string s5), (7, .bool x1), (8, .pointer (some ⟨g46, 0, none⟩)), (10, .int .i64 i187)] ⟨rfl, rfl, rfl, rfl, rfl, trivial⟩ (fun u => ?_)
 refine d_sta ⟨w0, M, (100080, g46, .cells #[.int .i64 i188, .int .i64 i189, .int .i64 i190, .int .i64 i191, .int .i64 i192, .int .i64 i193, .int .i64 i194, .slice A196 l195.length c197, .string s199, .int .i64 i200, .int .i64 i201, .slice A203 l202.length c204, .slice A207 l206.length c208, .slice A211 l210.length c212] 43 (0, 0)) :: H, R, φ214⟩ (fun _ h => h) <| d_then <| c_seq <| c_region <| g_v rfl (r_loadA (tag := 100080) rfl rfl Try.isAgg43 Try.sizeOf43 rfl rfl) <| g_v rfl r_move <| g_v rfl r_move ?_
 replace hm := bnd hm
 obtain ⟨⟨x215, x216⟩, hx217, hm⟩ := hm
 refine g_cn ⟨w0, M, _, _, φ214⟩ (fun _ h => h) Try.call28 rfl rfl (c_raft_Compact (⟨i188, i189, i190, i191, i192, (⟨i193, i194, l195, s199, (⟨i200, i201, l202⟩ : GLog)⟩ : GHard), l206, l210⟩ : GRaft) A196 c197 hc197 (fun W h => f198 W h) A203 c204 hc204 (fun W h => f205 W h) A207 c208 hc208 (fun W h => f209 W h) A211 c212 hc212 (fun W h => f213 W h) p1 s5 _ hx217) (fun ⟨A218, c219, A221, c222, A224, c225, A227, c228⟩ ⟨hc219, hc222, hc225, hc228⟩ => ?_)
 refine g_abs (fun φ230 q230' => ?_)
 have q230 : ∀ W, φ230 W → φ214 W := fun W h => (q230' W h).1
 have f220 := fun (W : World) (h : φ230 W) => (q230' W h).2.1
 have f223 := fun (W : World) (h : φ230 W) => (q230' W h).2.2.1
 have f226 := fun (W : World) (h : φ230 W) => (q230' W h).2.2.2.1
 have f229 := fun (W : World) (h : φ230 W) => (q230' W h).2.2.2.2
 refine g_v rfl r_move <| g_v rfl (r_extract rfl rfl) <| g_v rfl (r_extract rfl rfl) ?_
 refine g_e rfl (e_alloc 100120 Try.zeroValue43) (fun g232 _ => ?_)
 refine g_storeL (tag := 100120) rfl rfl rfl rfl Try.sizeOf43 rfl rfl <| g_v rfl r_assign <| g_nil <| d_then ?_
 refine c_flat [(1, .int .i64 p1), (2, .string s5), (7, .bool x1), (8, .pointer (some ⟨g46, 0, none⟩)), (10, .int .i64 i187), (12, .pointer (some ⟨g232, 0, none⟩)), (13, .int .i64 x216)] ⟨rfl, rfl, rfl, rfl, rfl, rfl, rfl, trivial⟩ (fun u => ?_)
 refine c_sta ⟨w0, M, (100120, g232, .cells #[.int .i64 x215.fMe, .int .i64 x215.fRole, .int .i64 x215.fLeader, .int .i64 x215.fCommit, .int .i64 x215.fLeft, .int .i64 x215.fHard.fTerm, .int .i64 x215.fHard.fVote, .slice A218 x215.fHard.fVoters.length c219, .string x215.fHard.fSnap, .int .i64 x215.fHard.fLog.fBase, .int .i64 x215.fHard.fLog.fBaseTerm, .slice A221 x215.fHard.fLog.fEntries.length c222, .slice A224 x215.fVotes.length c225, .slice A227 x215.fMarks.length c228] 43 (0, 0)) :: (100080, g46, .cells #[.int .i64 i188, .int .i64 i189, .int .i64 i190, .int .i64 i191, .int .i64 i192, .int .i64 i193, .int .i64 i194, .slice A196 l195.length c197, .string s199, .int .i64 i200, .int .i64 i201, .slice A203 l202.length c204, .slice A207 l206.length c208, .slice A211 l210.length c212] 43 (0, 0)) :: H, R, φ230⟩ (fun _ h => h) <| c_seq ?_
 refine c_cut (ι := Unit) [1, 2, 7, 8, 10, 12, 13] (fun _ => []) (fun _ => ⟨w0, M, (100120, g232, .cells #[.int .i64 x215.fMe, .int .i64 x215.fRole, .int .i64 x215.fLeader, .int .i64 x215.fCommit, .int .i64 x215.fLeft, .int .i64 x215.fHard.fTerm, .int .i64 x215.fHard.fVote, .slice A218 x215.fHard.fVoters.length c219, .string x215.fHard.fSnap, .int .i64 x215.fHard.fLog.fBase, .int .i64 x215.fHard.fLog.fBaseTerm, .slice A221 x215.fHard.fLog.fEntries.length c222, .slice A224 x215.fVotes.length c225, .slice A227 x215.fMarks.length c228] 43 (0, 0)) :: (100080, g46, .cells #[.int .i64 i188, .int .i64 i189, .int .i64 i190, .int .i64 i191, .int .i64 i192, .int .i64 i193, .int .i64 i194, .slice A196 l195.length c197, .string s199, .int .i64 i200, .int .i64 i201, .slice A203 l202.length c204, .slice A207 l206.length c208, .slice A211 l210.length c212] 43 (0, 0)) :: H, R, φ230⟩) (fun _ => m_law12_RaftCuts_j3 x216 x215 i188 i189 i190 i191 i192 i193 i194 l195 s199 i200 i201 l202 l206 l210 x1 i187 p1 s5 = some r) ?_ (fun _ u hm => ?_)
 ·
  refine c_seq <| c_region <| g_v rfl r_move <| g_v rfl (r_eql rfl rfl) <| g_v rfl r_move <| g_v rfl (r_geq rfl rfl) <| g_v rfl r_move ?_
  refine g_if rfl rfl rfl rfl rfl (fun h340 => ?_) (fun h340 => ?_)
  ·
   replace hm := ite_t hm (of_decide_eq_true h340)
   refine g_v rfl r_move <| g_do rfl rfl rfl rfl rfl h340 <| g_v rfl r_move <| g_do rfl rfl rfl rfl rfl h340 <| g_v rfl (r_add rfl rfl rfl) <| g_do rfl rfl rfl rfl rfl h340 <| g_v rfl (r_leq rfl rfl) <| g_v rfl (r_pick1 rfl h340) <| g_v rfl (r_neqBo Try.underlying4 rfl rfl) <| g_nil ?_
   refine d_then ?_
   refine c_flat [(1, .int .i64 p1), (2, .string s5), (7, .bool x1), (8, .pointer (some ⟨g46, 0, none⟩)), (10, .int .i64 i187), (12, .pointer (some ⟨g232, 0, none⟩)), (13, .int .i64 x216), (70, .bool (!((decide (x216 = 0)) == (decide (p1 ≤ w64 (i187 + 1))))))] ⟨rfl, rfl, rfl, rfl, rfl, rfl, rfl, rfl, trivial⟩ (fun u => ?_)
   refine c_cond rfl (fun h341 => ?_) (fun h341 => ?_)
   ·
    replace hm := ite_t hm h341
    refine c_seq <| c_region <| g_v rfl r_assign <| g_nil <| d_then <| c_ret <| d_ret_then <| d_ret_then ?_
    cases hm
    exact d_retC () Try.results8 (res_tmp (res_nil rfl)) trivial (fun W h => ok_pre (H1 := [_, _]) (R1 := []) h (fun W hφ => (q7 _ (q23 _ (q44 _ (q214 _ (q230 _ hφ))))))) (.inr rfl)
   replace hm := ite_f hm (bool_nt h341)
   refine c_skip ?_
   exact d_round () hm Nat.zero_lt_one ⟨rfl, rfl, rfl, rfl, rfl, rfl, rfl, trivial⟩ (fun W h => h.phi (fun W hφ => hφ))
  replace hm := ite_f hm (of_decide_eq_false h340)
  iterate 3 refine g_no rfl rfl rfl rfl rfl h340 ?_
  refine g_v rfl (r_pick0 rfl h340) <| g_v rfl (r_neqBo Try.underlying4 rfl rfl) <| g_nil <| d_then ?_
  refine c_cond rfl (fun h342 => ?_) (fun h342 => ?_)
  ·
   replace hm := ite_t hm h342
   refine c_seq <| c_region <| g_v rfl r_assign <| g_nil <| d_then <| c_ret <| d_ret_then <| d_ret_then ?_
   cases hm
   exact d_retC () Try.results8 (res_tmp (res_nil rfl)) trivial (fun W h => ok_pre (H1 := [_, _]) (R1 := []) h (fun W hφ => (q7 _ (q23 _ (q44 _ (q214 _ (q230 _ hφ))))))) (.inr rfl)
  replace hm := ite_f hm (bool_nt h342)
  refine c_skip ?_
  exact d_round () hm Nat.zero_lt_one ⟨rfl, rfl, rfl, rfl, rfl, rfl, rfl, trivial⟩ (fun W h => h.phi (fun W hφ => hφ))
 unfold m_law12_RaftCuts_j3 at hm
 refine d_flat [(1, .int .i64 p1), (2, .string s5), (7, .bool x1), (8, .pointer (some ⟨g46, 0, none⟩)), (10, .int .i64 i187), (12, .pointer (some ⟨g232, 0, none⟩)), (13, .int .i64 x216)] ⟨rfl, rfl, rfl, rfl, rfl, rfl, rfl, trivial⟩ (fun u => ?_)
 refine d_then <| c_seq <| c_seq <| c_region <| g_v rfl r_move <| g_v rfl (r_neq rfl rfl) <| g_nil <| d_then ?_
 refine c_cond rfl (fun h236 => ?_) (fun h236 => ?_)
 ·
  replace hm := ite_t hm (of_decide_eq_true h236)
  refine c_seq <| c_region <| g_v rfl (r_loadA (tag := 100120) rfl rfl Try.isAgg43 Try.sizeOf43 rfl rfl) <| g_v rfl (r_loadA (tag := 100080) rfl rfl Try.isAgg43 Try.sizeOf43 rfl rfl) ?_
  replace hm := bnd hm
  obtain ⟨x237, hx238, hm⟩ := hm
  refine g_cn ⟨w0, M, _, _, φ230⟩ (fun _ h => h) Try.call29 rfl rfl (c_ref12_Same x215 A218 c219 hc219 (fun W hS => f220 W hS.now) A221 c222 hc222 (fun W hS => f223 W hS.now) A224 c225 hc225 (fun W hS => f226 W hS.now) A227 c228 hc228 (fun W hS => f229 W hS.now) (⟨i188, i189, i190, i191, i192, (⟨i193, i194, l195, s199, (⟨i200, i201, l202⟩ : GLog)⟩ : GHard), l206, l210⟩ : GRaft) A196 c197 hc197 (fun W hS => f198 W (q230 _ hS.now)) A203 c204 hc204 (fun W hS => f205 W (q230 _ hS.now)) A207 c208 hc208 (fun W hS => f209 W (q230 _ hS.now)) A211 c212 hc212 (fun W hS => f213 W (q230 _ hS.now)) _ hx238) (fun _ _ => ?_)
  refine g_v rfl r_assign <| g_nil <| d_then <| c_seq <| c_region <| g_v rfl r_move <| g_v rfl r_move ?_
  refine g_if rfl rfl rfl rfl rfl (fun h239 => ?_) (fun h239 => ?_)
  ·
   replace hm := ite_t hm h239
   refine g_v rfl r_move <| g_do rfl rfl rfl rfl rfl h239 <| g_v rfl (r_eql rfl rfl) <| g_v rfl (r_pick1 rfl h239) <| g_v rfl r_move ?_
   refine g_if rfl rfl rfl rfl rfl (fun h240 => ?_) (fun h240 => ?_)
   ·
    replace hm := ite_t hm (of_decide_eq_true h240)
    refine g_v rfl r_move <| g_v rfl (r_pick1 rfl h240) <| g_v rfl r_assign <| g_nil <| d_then ?_
    refine c_flat [(6, .bool x237)] ⟨rfl, trivial⟩ (fun u => ?_)
    refine c_ret <| d_ret_then ?_
    cases hm
    exact d_retC () Try.results8 (res_tmp (res_nil rfl)) trivial (fun W h => ok_pre (H1 := [_, _]) (R1 := []) h (fun W hφ => (q7 _ (q23 _ (q44 _ (q214 _ (q230 _ hφ))))))) (.inr rfl)
   replace hm := ite_f hm (of_decide_eq_false h240)
   refine g_v rfl (r_pick0 rfl h240) <| g_v rfl r_assign <| g_nil <| d_then ?_
   refine c_flat [(6, .bool false)] ⟨rfl, trivial⟩ (fun u => ?_)
   refine c_ret <| d_ret_then ?_
   cases hm
   exact d_retC () Try.results8 (res_tmp (res_nil rfl)) trivial (fun W h => ok_pre (H1 := [_, _]) (R1 := []) h (fun W hφ => (q7 _ (q23 _ (q44 _ (q214 _ (q230 _ hφ))))))) (.inr rfl)
  replace hm := ite_f hm (bool_nt h239)
  refine g_no rfl rfl rfl rfl rfl h239 <| g_v rfl (r_pick0 rfl h239) <| g_v rfl r_move <| g_no rfl rfl rfl rfl rfl rfl <| g_v rfl (r_pick0 rfl rfl) <| g_v rfl r_assign <| g_nil <| d_then ?_
  refine c_flat [(6, .bool false)] ⟨rfl, trivial⟩ (fun u => ?_)
  refine c_ret <| d_ret_then ?_
  cases hm
  exact d_retC () Try.results8 (res_tmp (res_nil rfl)) trivial (fun W h => ok_pre (H1 := [_, _]) (R1 := []) h (fun W hφ => (q7 _ (q23 _ (q44 _ (q214 _ (q230 _ hφ))))))) (.inr rfl)
 replace hm := ite_f hm (of_decide_eq_false h236)
 refine c_skip <| d_then <| c_seq <| c_seq <| c_region <| g_v rfl r_move <| g_v rfl (r_add rfl rfl rfl) <| g_v rfl r_assign <| g_nil <| d_then ?_
 refine c_cut (ι := Unit) [1, 2, 7, 8, 10, 12] (fun _ => []) (fun _ => ⟨w0, M, (100120, g232, .cells #[.int .i64 x215.fMe, .int .i64 x215.fRole, .int .i64 x215.fLeader, .int .i64 x215.fCommit, .int .i64 x215.fLeft, .int .i64 x215.fHard.fTerm, .int .i64 x215.fHard.fVote, .slice A218 x215.fHard.fVoters.length c219, .string x215.fHard.fSnap, .int .i64 x215.fHard.fLog.fBase, .int .i64 x215.fHard.fLog.fBaseTerm, .slice A221 x215.fHard.fLog.fEntries.length c222, .slice A224 x215.fVotes.length c225, .slice A227 x215.fMarks.length c228] 43 (0, 0)) :: (100080, g46, .cells #[.int .i64 i188, .int .i64 i189, .int .i64 i190, .int .i64 i191, .int .i64 i192, .int .i64 i193, .int .i64 i194, .slice A196 l195.length c197, .string s199, .int .i64 i200, .int .i64 i201, .slice A203 l202.length c204, .slice A207 l206.length c208, .slice A211 l210.length c212] 43 (0, 0)) :: H, R, φ230⟩) (fun _ => m_law12_RaftCuts_j4 x215 i188 i189 i190 i191 i192 i193 i194 l195 s199 i200 i201 l202 l206 l210 x1 s5 p1 i187 = some r) ?_ (fun _ u hm => ?_)
 ·
  refine c_block ?_
  replace hm := bnd hm
  obtain ⟨out5, hl5, hr5⟩ := hm
  obtain ⟨n324', hl5⟩ := loop_lp hl5
  refine c_loopU (ι := Nat × Int) [1, 2, 7, 8, 10, 12, 15] (fun ⟨n324, i308⟩ => [(15, .int .i64 i308)]) (fun ⟨n324, i308⟩ => ⟨w0, M, (100120, g232, .cells #[.int .i64 x215.fMe, .int .i64 x215.fRole, .int .i64 x215.fLeader, .int .i64 x215.fCommit, .int .i64 x215.fLeft, .int .i64 x215.fHard.fTerm, .int .i64 x215.fHard.fVote, .slice A218 x215.fHard.fVoters.length c219, .string x215.fHard.fSnap, .int .i64 x215.fHard.fLog.fBase, .int .i64 x215.fHard.fLog.fBaseTerm, .slice A221 x215.fHard.fLog.fEntries.length c222, .slice A224 x215.fVotes.length c225, .slice A227 x215.fMarks.length c228] 43 (0, 0)) :: (100080, g46, .cells #[.int .i64 i188, .int .i64 i189, .int .i64 i190, .int .i64 i191, .int .i64 i192, .int .i64 i193, .int .i64 i194, .slice A196 l195.length c197, .string s199, .int .i64 i200, .int .i64 i201, .slice A203 l202.length c204, .slice A207 l206.length c208, .slice A211 l210.length c212] 43 (0, 0)) :: H, R, φ230⟩) (fun ⟨n324, i308⟩ => Lp (fun s => m_law12_RaftCuts_s5 i187 i200 i201 l202 x215 s) n324 i308 out5) (fun ⟨n324, i308⟩ => n324) (n324', w64 (p1 + 1)) hl5 ⟨rfl, rfl, rfl, rfl, rfl, rfl, rfl, trivial⟩ (fun W h => h.phi (fun W hφ => hφ)) (fun ⟨n324, i308⟩ u hlp => ?_)
  obtain ⟨o5, hm, hnx5⟩ := lp_step hlp
  clear hlp
  replace hm : m_law12_RaftCuts_s5 i187 i200 i201 l202 x215 i308 = some o5 := hm
  unfold m_law12_RaftCuts_s5 at hm
  refine c_flat [(1, .int .i64 p1), (2, .string s5), (7, .bool x1), (8, .pointer (some ⟨g46, 0, none⟩)), (10, .int .i64 i187), (12, .pointer (some ⟨g232, 0, none⟩)), (15, .int .i64 i308)] ⟨rfl, rfl, rfl, rfl, rfl, rfl, rfl, trivial⟩ (fun u => ?_)
  refine c_seq <| c_seq <| c_region <| g_v rfl r_move <| g_v rfl r_move <| g_v rfl (r_add rfl rfl rfl) <| g_v rfl (r_leq rfl rfl) <| g_nil <| d_then ?_
  refine c_cond rfl (fun h325 => ?_) (fun h325 => ?_)
  ·
   replace hm := ite_t hm (of_decide_eq_true h325)
   refine c_skip <| d_then <| c_seq <| c_block <| c_seq <| c_region <| g_v rfl (r_field (n := 5) Try.underlying43 rfl Try.sizeOf40 rfl rfl) <| g_v rfl (r_field (n := 9) Try.underlying40 rfl Try.sizeOf38 rfl rfl) <| g_v rfl (r_loadA (tag := 100080) rfl rfl Try.isAgg38 Try.sizeOf38 rfl rfl) <| g_v rfl r_move ?_
   replace hm := bnd hm
   obtain ⟨⟨x326, x327⟩, hx328, hm⟩ := hm
   refine g_cn ⟨w0, M, _, _, φ230⟩ (fun _ h => h) Try.call20 rfl rfl (c_plog_Get (⟨i200, i201, l202⟩ : GLog) A203 c204 hc204 (fun W hS => f205 W (q230 _ hS.now)) i308 _ hx328) (fun _ _ => ?_)
   refine g_v rfl r_move <| g_v rfl (r_extract rfl rfl) <| g_v rfl (r_extract rfl rfl) ?_
   refine g_e rfl (e_alloc 100160 Try.zeroValue36) (fun g330 _ => ?_)
   refine g_storeL (tag := 100160) rfl rfl rfl rfl Try.sizeOf36 rfl rfl <| g_v rfl r_assign <| g_nil <| d_then ?_
   refine c_flat [(1, .int .i64 p1), (2, .string s5), (7, .bool x1), (8, .pointer (some ⟨g46, 0, none⟩)), (10, .int .i64 i187), (12, .pointer (some ⟨g232, 0, none⟩)), (15, .int .i64 i308), (16, .pointer (some ⟨g330, 0, none⟩)), (17, .bool x327)] ⟨rfl, rfl, rfl, rfl, rfl, rfl, rfl, rfl, rfl, trivial⟩ (fun u => ?_)
   refine c_sta ⟨w0, M, (100160, g330, .cells #[.int .i64 x326.fTerm, .int .i64 x326.fKind, .string x326.fData] 36 (0, 0)) :: (100120, g232, .cells #[.int .i64 x215.fMe, .int .i64 x215.fRole, .int .i64 x215.fLeader, .int .i64 x215.fCommit, .int .i64 x215.fLeft, .int .i64 x215.fHard.fTerm, .int .i64 x215.fHard.fVote, .slice A218 x215.fHard.fVoters.length c219, .string x215.fHard.fSnap, .int .i64 x215.fHard.fLog.fBase, .int .i64 x215.fHard.fLog.fBaseTerm, .slice A221 x215.fHard.fLog.fEntries.length c222, .slice A224 x215.fVotes.length c225, .slice A227 x215.fMarks.length c228] 43 (0, 0)) :: (100080, g46, .cells #[.int .i64 i188, .int .i64 i189, .int .i64 i190, .int .i64 i191, .int .i64 i192, .int .i64 i193, .int .i64 i194, .slice A196 l195.length c197, .string s199, .int .i64 i200, .int .i64 i201, .slice A203 l202.length c204, .slice A207 l206.length c208, .slice A211 l210.length c212] 43 (0, 0)) :: H, R, φ230⟩ (fun _ h => h) <| c_seq <| c_region <| g_v rfl (r_field (n := 5) Try.underlying43 rfl Try.sizeOf40 rfl rfl) <| g_v rfl (r_field (n := 9) Try.underlying40 rfl Try.sizeOf38 rfl rfl) <| g_v rfl (r_loadA (tag := 100120) rfl rfl Try.isAgg38 Try.sizeOf38 rfl rfl) <| g_v rfl r_move ?_
   replace hm := bnd hm
   obtain ⟨⟨x331, x332⟩, hx333, hm⟩ := hm
   refine g_cn ⟨w0, M, _, _, φ230⟩ (fun _ h => h) Try.call20 rfl rfl (c_plog_Get x215.fHard.fLog A221 c222 hc222 (fun W hS => f223 W hS.now) i308 _ hx333) (fun _ _ => ?_)
   refine g_v rfl r_move <| g_v rfl (r_extract rfl rfl) <| g_v rfl (r_extract rfl rfl) ?_
   refine g_e rfl (e_alloc 100180 Try.zeroValue36) (fun g335 _ => ?_)
   refine g_storeL (tag := 100180) rfl rfl rfl rfl Try.sizeOf36 rfl rfl <| g_v rfl r_assign <| g_nil <| d_then ?_
   refine c_flat [(1, .int .i64 p1), (2, .string s5), (7, .bool x1), (8, .pointer (some ⟨g46, 0, none⟩)), (10, .int .i64 i187), (12, .pointer (some ⟨g232, 0, none⟩)), (15, .int .i64 i308), (16, .pointer (some ⟨g330, 0, none⟩)), (17, .bool x327), (18, .pointer (some ⟨g335, 0, none⟩)), (19, .bool x332)] ⟨rfl, rfl, rfl, rfl, rfl, rfl, rfl, rfl, rfl, rfl, rfl, trivial⟩ (fun u => ?_)
   refine c_sta ⟨w0, M, (100180, g335, .cells #[.int .i64 x331.fTerm, .int .i64 x331.fKind, .string x331.fData] 36 (0, 0)) :: (100160, g330, .cells #[.int .i64 x326.fTerm, .int .i64 x326.fKind, .string x326.fData] 36 (0, 0)) :: (100120, g232, .cells #[.int .i64 x215.fMe, .int .i64 x215.fRole, .int .i64 x215.fLeader, .int .i64 x215.fCommit, .int .i64 x215.fLeft, .int .i64 x215.fHard.fTerm, .int .i64 x215.fHard.fVote, .slice A218 x215.fHard.fVoters.length c219, .string x215.fHard.fSnap, .int .i64 x215.fHard.fLog.fBase, .int .i64 x215.fHard.fLog.fBaseTerm, .slice A221 x215.fHard.fLog.fEntries.length c222, .slice A224 x215.fVotes.length c225, .slice A227 x215.fMarks.length c228] 43 (0, 0)) :: (100080, g46, .cells #[.int .i64 i188, .int .i64 i189, .int .i64 i190, .int .i64 i191, .int .i64 i192, .int .i64 i193, .int .i64 i194, .slice A196 l195.length c197, .string s199, .int .i64 i200, .int .i64 i201, .slice A203 l202.length c204, .slice A207 l206.length c208, .slice A211 l210.length c212] 43 (0, 0)) :: H, R, φ230⟩ (fun _ h => h) <| c_seq <| c_region <| g_v rfl (r_loadA (tag := 100160) rfl rfl Try.isAgg36 Try.sizeOf36 rfl rfl) <| g_v rfl (r_loadA (tag := 100180) rfl rfl Try.isAgg36 Try.sizeOf36 rfl rfl) <| g_v rfl (r_neqA rfl rfl eqg36 (eqq36 x326 x331)) <| g_v rfl r_move ?_
   refine g_if rfl rfl rfl rfl rfl (fun h336 => ?_) (fun h336 => ?_)
   ·
    have h336' : (decide (x326 = x331)) = true := by revert h336; cases (decide (x326 = x331)) <;> simp
    replace hm := ite_t hm (of_decide_eq_true h336')
    refine g_v rfl r_move <| g_do rfl rfl rfl rfl rfl h336 <| g_v rfl (r_not rfl) <| g_v rfl (r_pick0 rfl h336) <| g_v rfl r_move ?_
    refine g_if rfl rfl rfl rfl rfl (fun h337 => ?_) (fun h337 => ?_)
    ·
     have h337' : x327 = true := by revert h337; cases x327 <;> simp
     replace hm := ite_t hm h337'
     refine g_v rfl r_move <| g_do rfl rfl rfl rfl rfl h337 <| g_v rfl (r_not rfl) <| g_v rfl (r_pick0 rfl h337) <| g_nil <| d_then ?_
     refine c_flat [(1, .int .i64 p1), (2, .string s5), (7, .bool x1), (8, .pointer (some ⟨g46, 0, none⟩)), (10, .int .i64 i187), (12, .pointer (some ⟨g232, 0, none⟩)), (15, .int .i64 i308), (118, .bool (!x332))] ⟨rfl, rfl, rfl, rfl, rfl, rfl, rfl, rfl, trivial⟩ (fun u => ?_)
     refine c_cond rfl (fun h338 => ?_) (fun h338 => ?_)
     ·
      have h338' : x332 = false := by revert h338; cases x332 <;> simp
      replace hm := ite_f hm (bool_nt h338')
      refine c_seq <| c_region <| g_v rfl r_assign <| g_nil <| d_then <| c_ret <| d_ret_block <| d_ret_then <| d_ret_then <| d_ret_block ?_
      refine d_ret_then <| d_ret_then ?_
      replace hm := nx_out (C := (fun e : Unit ⊕ Bool => Sum.elim (fun e => m_law12_RaftCuts_j4 x215 i188 i189 i190 i191 i192 i193 i194 l195 s199 i200 i201 l202 l206 l210 x1 s5 p1 i187) (fun x => some x) e = some r)) hm hnx5 hr5
      replace hm : some false = some r := hm
      cases hm
      exact d_retC () Try.results8 (res_tmp (res_nil rfl)) trivial (fun W h => ok_pre (H1 := [_, _, _, _]) (R1 := []) h (fun W hφ => (q7 _ (q23 _ (q44 _ (q214 _ (q230 _ hφ))))))) (.inr rfl)
     have h338' : x332 = true := by revert h338; cases x332 <;> simp
     replace hm := ite_t hm h338'
     refine c_skip <| d_normal_block <| d_then <| c_region <| g_v rfl r_move <| g_v rfl (r_add rfl rfl rfl) <| g_v rfl r_assign <| g_nil ?_
     obtain ⟨n339, hn339, hlp⟩ := nx_inl hm hnx5
     exact d_round (n339, w64 (i308 + 1)) hlp hn339 ⟨rfl, rfl, rfl, rfl, rfl, rfl, rfl, trivial⟩ (fun W h => ((h.dropH (t := 100180) rfl).dropH (t := 100160) rfl).phi (fun W hφ => hφ))
    have h337' : x327 = false := by revert h337; cases x327 <;> simp
    replace hm := ite_f hm (bool_nt h337')
    refine g_no rfl rfl rfl rfl rfl h337 <| g_v rfl (r_pick1 rfl h337) <| g_nil <| d_then ?_
    refine c_flat [(1, .int .i64 p1), (2, .string s5), (7, .bool x1), (8, .pointer (some ⟨g46, 0, none⟩)), (10, .int .i64 i187), (12, .pointer (some ⟨g232, 0, none⟩)), (15, .int .i64 i308), (118, .bool true)] ⟨rfl, rfl, rfl, rfl, rfl, rfl, rfl, rfl, trivial⟩ (fun u => ?_)
    refine c_cond1 rfl rfl <| c_seq <| c_region <| g_v rfl r_assign <| g_nil <| d_then <| c_ret <| d_ret_block <| d_ret_then <| d_ret_then ?_
    refine d_ret_block <| d_ret_then <| d_ret_then ?_
    replace hm := nx_out (C := (fun e : Unit ⊕ Bool => Sum.elim (fun e => m_law12_RaftCuts_j4 x215 i188 i189 i190 i191 i192 i193 i194 l195 s199 i200 i201 l202 l206 l210 x1 s5 p1 i187) (fun x => some x) e = some r)) hm hnx5 hr5
    replace hm : some false = some r := hm
    cases hm
    exact d_retC () Try.results8 (res_tmp (res_nil rfl)) trivial (fun W h => ok_pre (H1 := [_, _, _, _]) (R1 := []) h (fun W hφ => (q7 _ (q23 _ (q44 _ (q214 _ (q230 _ hφ))))))) (.inr rfl)
   have h336' : (decide (x326 = x331)) = false := by revert h336; cases (decide (x326 = x331)) <;> simp
   replace hm := ite_f hm (of_decide_eq_false h336')
   refine g_no rfl rfl rfl rfl rfl h336 <| g_v rfl (r_pick1 rfl h336) <| g_v rfl r_move <| g_no rfl rfl rfl rfl rfl rfl <| g_no rfl rfl rfl rfl rfl rfl <| g_v rfl (r_pick1 rfl rfl) <| g_nil <| d_then <| c_cond1 rfl rfl <| c_seq ?_
   refine c_region <| g_v rfl r_assign <| g_nil <| d_then <| c_ret <| d_ret_block <| d_ret_then <| d_ret_then <| d_ret_block <| d_ret_then ?_
   refine d_ret_then ?_
   replace hm := nx_out (C := (fun e : Unit ⊕ Bool => Sum.elim (fun e => m_law12_RaftCuts_j4 x215 i188 i189 i190 i191 i192 i193 i194 l195 s199 i200 i201 l202 l206 l210 x1 s5 p1 i187) (fun x => some x) e = some r)) hm hnx5 hr5
   replace hm : some false = some r := hm
   cases hm
   exact d_retC () Try.results8 (res_tmp (res_nil rfl)) trivial (fun W h => ok_pre (H1 := [_, _, _, _]) (R1 := []) h (fun W hφ => (q7 _ (q23 _ (q44 _ (q214 _ (q230 _ hφ))))))) (.inr rfl)
  replace hm := ite_f hm (of_decide_eq_false h325)
  refine c_exit <| d_exit_then <| d_exit_then <| d_exit_block ?_
  replace hm := nx_out (C := (fun e : Unit ⊕ Bool => Sum.elim (fun e => m_law12_RaftCuts_j4 x215 i188 i189 i190 i191 i192 i193 i194 l195 s199 i200 i201 l202 l206 l210 x1 s5 p1 i187) (fun x => some x) e = some r)) hm hnx5 hr5
  exact d_round () hm Nat.zero_lt_one ⟨rfl, rfl, rfl, rfl, rfl, rfl, trivial⟩ (fun W h => h.phi (fun W hφ => hφ))
 unfold m_law12_RaftCuts_j4 at hm
 refine d_flat [(1, .int .i64 p1), (2, .string s5), (7, .bool x1), (8, .pointer (some ⟨g46, 0, none⟩)), (10, .int .i64 i187), (12, .pointer (some ⟨g232, 0, none⟩))] ⟨rfl, rfl, rfl, rfl, rfl, rfl, trivial⟩ (fun u => ?_)
 refine d_then <| c_seq <| ga_start (n := 6) ⟨w0, M, (100120, g232, .cells #[.int .i64 x215.fMe, .int .i64 x215.fRole, .int .i64 x215.fLeader, .int .i64 x215.fCommit, .int .i64 x215.fLeft, .int .i64 x215.fHard.fTerm, .int .i64 x215.fHard.fVote, .slice A218 x215.fHard.fVoters.length c219, .string x215.fHard.fSnap, .int .i64 x215.fHard.fLog.fBase, .int .i64 x215.fHard.fLog.fBaseTerm, .slice A221 x215.fHard.fLog.fEntries.length c222, .slice A224 x215.fVotes.length c225, .slice A227 x215.fMarks.length c228] 43 (0, 0)) :: (100080, g46, .cells #[.int .i64 i188, .int .i64 i189, .int .i64 i190, .int .i64 i191, .int .i64 i192, .int .i64 i193, .int .i64 i194, .slice A196 l195.length c197, .string s199, .int .i64 i200, .int .i64 i201, .slice A203 l202.length c204, .slice A207 l206.length c208, .slice A211 l210.length c212] 43 (0, 0)) :: H, R, φ230⟩ [] #[false, false, false, false, false, false] (fun W h => h.phi (fun W hφ => hφ)) mixed rfl rfl <| ga_v (i := 0) (bz 6 1) rfl (by kernel_rfl) (fun _ _ _ _ h => h) rfl (r_loadA (tag := 100120) rfl rfl Try.isAgg43 Try.sizeOf43 rfl rfl) <| ga_v (i := 2) (bz 6 5) rfl (by kernel_rfl) (fun _ _ _ _ h => h) rfl (r_loadA (tag := 100080) rfl rfl Try.isAgg43 Try.sizeOf43 rfl rfl) ?_
 replace hm := bnd hm
 obtain ⟨x286, hx287, hm⟩ := hm
 refine ga_cn (first := #[]) (i := 1) (bz 6 7) rfl (by kernel_rfl) (by decide)  ⟨w0, M, _, _, φ230⟩ (fun _ h => h) Try.call26 rfl rfl rfl (c_ref12_Voters x215 A218 c219 hc219 (fun W h => f220 W h) A221 c222 hc222 (fun W hS => f223 W hS.now) A224 c225 hc225 (fun W hS => f226 W hS.now) A227 c228 hc228 (fun W hS => f229 W hS.now) _ hx287) (fun ⟨A288, c289⟩ W hc289 h => (h.phi (fun _ hh => hh.1)).phi (fun W hφ => hφ)) (fun ⟨A288, c289⟩ hc289 => ?_)
 refine ga_abs (fun φ291 q291' => ?_)
 have q291 : ∀ W, φ291 W → φ230 W := fun W h => (q291' W h).1
 have f290 := fun (W : World) (h : φ291 W) => (q291' W h).2
 replace hm := bnd hm
 obtain ⟨x292, hx293, hm⟩ := hm
 refine ga_cn (first := #[]) (i := 3) (bz 6 15) rfl (by kernel_rfl) (by decide)  ⟨w0, M, _, _, φ291⟩ (fun _ h => h) Try.call26 rfl rfl rfl (c_ref12_Voters (⟨i188, i189, i190, i191, i192, (⟨i193, i194, l195, s199, (⟨i200, i201, l202⟩ : GLog)⟩ : GHard), l206, l210⟩ : GRaft) A196 c197 hc197 (fun W h => f198 W (q230 _ (q291 _ h))) A203 c204 hc204 (fun W hS => f205 W (q230 _ (q291 _ hS.now))) A207 c208 hc208 (fun W hS => f209 W (q230 _ (q291 _ hS.now))) A211 c212 hc212 (fun W hS => f213 W (q230 _ (q291 _ hS.now))) _ hx293) (fun ⟨A294, c295⟩ W hc295 h => (h.phi (fun _ hh => hh.1)).phi (fun W hφ => (q291 _ hφ))) (fun ⟨A294, c295⟩ hc295 => ?_)
 refine ga_abs (fun φ297 q297' => ?_)
 have q297 : ∀ W, φ297 W → φ291 W := fun W h => (q297' W h).1
 have f296 := fun (W : World) (h : φ297 W) => (q297' W h).2
 replace hm := bnd hm
 obtain ⟨x298, hx299, hm⟩ := hm
 refine ga_cn (first := #[]) (i := 4) (bz 6 31) rfl (by kernel_rfl) (by decide)  ⟨w0, M, _, _, φ297⟩ (fun _ h => h) Try.call30 rfl rfl rfl (c_ref11_SameInts x286 A288 c289 hc289 (fun W hS => f290 W (q297 _ hS.now)) x292 A294 c295 hc295 (fun W hS => f296 W hS.now) _ hx299) (fun _ W _ h => h.phi (fun W hφ => (q291 _ (q297 _ hφ)))) (fun _ _ => ?_)
 refine ga_r (i := 5) (bz 6 63) rfl (by kernel_rfl) (by decide) rfl (r_assign) <| ga_done (by kernel_rfl) <| d_then <| c_seq <| c_region <| g_v rfl r_move <| g_v rfl r_move <| g_sta ⟨w0, M, (100120, g232, .cells #[.int .i64 x215.fMe, .int .i64 x215.fRole, .int .i64 x215.fLeader, .int .i64 x215.fCommit, .int .i64 x215.fLeft, .int .i64 x215.fHard.fTerm, .int .i64 x215.fHard.fVote, .slice A218 x215.fHard.fVoters.length c219, .string x215.fHard.fSnap, .int .i64 x215.fHard.fLog.fBase, .int .i64 x215.fHard.fLog.fBaseTerm, .slice A221 x215.fHard.fLog.fEntries.length c222, .slice A224 x215.fVotes.length c225, .slice A227 x215.fMarks.length c228] 43 (0, 0)) :: (100080, g46, .cells #[.int .i64 i188, .int .i64 i189, .int .i64 i190, .int .i64 i191, .int .i64 i192, .int .i64 i193, .int .i64 i194, .slice A196 l195.length c197, .string s199, .int .i64 i200, .int .i64 i201, .slice A203 l202.length c204, .slice A207 l206.length c208, .slice A211 l210.length c212] 43 (0, 0)) :: H, R, φ297⟩ (fun _ h => h) ?_
 refine g_if rfl rfl rfl rfl rfl (fun h300 => ?_) (fun h300 => ?_)
 ·
  replace hm := ite_t hm h300
  refine g_v rfl r_move <| g_v rfl (r_pick1 rfl h300) <| g_v rfl r_move ?_
  refine g_if rfl rfl rfl rfl rfl (fun h301 => ?_) (fun h301 => ?_)
  ·
   replace hm := ite_t hm h301
   refine g_v rfl (r_field (n := 3) Try.underlying43 rfl Try.sizeOf3 rfl rfl) <| g_do rfl rfl rfl rfl rfl h301 <| g_v rfl (r_load (tag := 100120) rfl rfl rfl Try.isAgg3) <| g_do rfl rfl rfl rfl rfl h301 <| g_v rfl (r_field (n := 3) Try.underlying43 rfl Try.sizeOf3 rfl rfl) <| g_do rfl rfl rfl rfl rfl h301 <| g_v rfl (r_load (tag := 100080) rfl rfl rfl Try.isAgg3) <| g_do rfl rfl rfl rfl rfl h301 <| g_v rfl (r_eql rfl rfl) <| g_v rfl (r_pick1 rfl h301) ?_
   refine g_v rfl r_move ?_
   refine g_if rfl rfl rfl rfl rfl (fun h302 => ?_) (fun h302 => ?_)
   ·
    replace hm := ite_t hm (of_decide_eq_true h302)
    refine g_v rfl (r_field (n := 5) Try.underlying43 rfl Try.sizeOf40 rfl rfl) <| g_do rfl rfl rfl rfl rfl h302 <| g_v rfl (r_field (n := 5) Try.underlying40 rfl Try.sizeOf3 rfl rfl) <| g_do rfl rfl rfl rfl rfl h302 <| g_v rfl (r_load (tag := 100120) rfl rfl rfl Try.isAgg3) <| g_do rfl rfl rfl rfl rfl h302 <| g_v rfl (r_field (n := 5) Try.underlying43 rfl Try.sizeOf40 rfl rfl) <| g_do rfl rfl rfl rfl rfl h302 <| g_v rfl (r_field (n := 5) Try.underlying40 rfl Try.sizeOf3 rfl rfl) <| g_do rfl rfl rfl rfl rfl h302 ?_
    refine g_v rfl (r_load (tag := 100080) rfl rfl rfl Try.isAgg3) <| g_do rfl rfl rfl rfl rfl h302 <| g_v rfl (r_eql rfl rfl) <| g_v rfl (r_pick1 rfl h302) <| g_v rfl r_move ?_
    refine g_if rfl rfl rfl rfl rfl (fun h303 => ?_) (fun h303 => ?_)
    ·
     replace hm := ite_t hm (of_decide_eq_true h303)
     refine g_v rfl (r_field (n := 5) Try.underlying43 rfl Try.sizeOf40 rfl rfl) <| g_do rfl rfl rfl rfl rfl h303 <| g_v rfl (r_field (n := 8) Try.underlying40 rfl Try.sizeOf9 rfl rfl) <| g_do rfl rfl rfl rfl rfl h303 <| g_v rfl (r_load (tag := 100120) rfl rfl rfl Try.isAgg9) <| g_do rfl rfl rfl rfl rfl h303 <| g_v rfl r_move <| g_do rfl rfl rfl rfl rfl h303 <| g_v rfl (r_eqlT rfl rfl) <| g_v rfl (r_pick1 rfl h303) ?_
     refine g_v rfl r_move ?_
     refine g_if rfl rfl rfl rfl rfl (fun h304 => ?_) (fun h304 => ?_)
     ·
      replace hm := ite_t hm (of_decide_eq_true h304)
      refine g_v rfl (r_field (n := 5) Try.underlying43 rfl Try.sizeOf40 rfl rfl) <| g_do rfl rfl rfl rfl rfl h304 <| g_v rfl (r_field (n := 9) Try.underlying40 rfl Try.sizeOf38 rfl rfl) <| g_do rfl rfl rfl rfl rfl h304 <| g_v rfl (r_field (n := 9) Try.underlying38 rfl Try.sizeOf3 rfl rfl) <| g_do rfl rfl rfl rfl rfl h304 <| g_v rfl (r_load (tag := 100120) rfl rfl rfl Try.isAgg3) <| g_do rfl rfl rfl rfl rfl h304 <| g_v rfl r_move <| g_do rfl rfl rfl rfl rfl h304 ?_
      refine g_v rfl (r_eql rfl rfl) <| g_v rfl (r_pick1 rfl h304) <| g_v rfl r_move ?_
      refine g_if rfl rfl rfl rfl rfl (fun h305 => ?_) (fun h305 => ?_)
      ·
       replace hm := ite_t hm (of_decide_eq_true h305)
       refine g_v rfl (r_field (n := 5) Try.underlying43 rfl Try.sizeOf40 rfl rfl) <| g_do rfl rfl rfl rfl rfl h305 <| g_v rfl (r_field (n := 9) Try.underlying40 rfl Try.sizeOf38 rfl rfl) <| g_do rfl rfl rfl rfl rfl h305 <| g_v rfl (r_loadA (tag := 100120) rfl rfl Try.isAgg38 Try.sizeOf38 rfl rfl) <| g_do rfl rfl rfl rfl rfl h305 ?_
       replace hm := bnd hm
       obtain ⟨x306, hx307, hm⟩ := hm
       refine g_cn ⟨w0, M, _, _, φ297⟩ (fun _ h => h) Try.call21 rfl rfl (c_plog_Last x215.fHard.fLog A221 c222 hc222 (fun W hS => f223 W (q291 _ (q297 _ hS.now))) _ hx307) (fun _ _ => ?_)
       refine g_do rfl rfl rfl rfl rfl h305 <| g_v rfl r_move <| g_do rfl rfl rfl rfl rfl h305 <| g_v rfl (r_add rfl rfl rfl) <| g_do rfl rfl rfl rfl rfl h305 <| g_v rfl (r_eql rfl rfl) <| g_v rfl (r_pick1 rfl h305) <| g_v rfl r_assign <| g_nil <| d_then ?_
       refine c_flat [(6, .bool (decide (x306 = w64 (i187 + 1))))] ⟨rfl, trivial⟩ (fun u => ?_)
       refine c_ret ?_
       cases hm
       exact d_retC () Try.results8 (res_tmp (res_nil rfl)) trivial (fun W h => ok_pre (H1 := [_, _]) (R1 := []) h (fun W hφ => (q7 _ (q23 _ (q44 _ (q214 _ (q230 _ (q291 _ (q297 _ hφ))))))))) (.inr rfl)
      replace hm := ite_f hm (of_decide_eq_false h305)
      iterate 6 refine g_no rfl rfl rfl rfl rfl h305 ?_
      refine g_v rfl (r_pick0 rfl h305) <| g_v rfl r_assign <| g_nil <| d_then ?_
      refine c_flat [(6, .bool false)] ⟨rfl, trivial⟩ (fun u => ?_)
      refine c_ret ?_
      cases hm
      exact d_retC () Try.results8 (res_tmp (res_nil rfl)) trivial (fun W h => ok_pre (H1 := [_, _]) (R1 := []) h (fun W hφ => (q7 _ (q23 _ (q44 _ (q214 _ (q230 _ (q291 _ (q297 _ hφ))))))))) (.inr rfl)
     replace hm := ite_f hm (of_decide_eq_false h304)
     iterate 5 refine g_no rfl rfl rfl rfl rfl h304 ?_
     refine g_v rfl (r_pick0 rfl h304) <| g_v rfl r_move ?_
     iterate 7 refine g_no rfl rfl rfl rfl rfl rfl ?_
     refine g_v rfl (r_pick0 rfl rfl) <| g_v rfl r_assign <| g_nil <| d_then ?_
     refine c_flat [(6, .bool false)] ⟨rfl, trivial⟩ (fun u => ?_)
     refine c_ret ?_
     cases hm
     exact d_retC () Try.results8 (res_tmp (res_nil rfl)) trivial (fun W h => ok_pre (H1 := [_, _]) (R1 := []) h (fun W hφ => (q7 _ (q23 _ (q44 _ (q214 _ (q230 _ (q291 _ (q297 _ hφ))))))))) (.inr rfl)
    replace hm := ite_f hm (of_decide_eq_false h303)
    iterate 4 refine g_no rfl rfl rfl rfl rfl h303 ?_
    refine g_v rfl (r_pick0 rfl h303) <| g_v rfl r_move ?_
    iterate 6 refine g_no rfl rfl rfl rfl rfl rfl ?_
    refine g_v rfl (r_pick0 rfl rfl) <| g_v rfl r_move ?_
    iterate 7 refine g_no rfl rfl rfl rfl rfl rfl ?_
    refine g_v rfl (r_pick0 rfl rfl) <| g_v rfl r_assign <| g_nil <| d_then ?_
    refine c_flat [(6, .bool false)] ⟨rfl, trivial⟩ (fun u => ?_)
    refine c_ret ?_
    cases hm
    exact d_retC () Try.results8 (res_tmp (res_nil rfl)) trivial (fun W h => ok_pre (H1 := [_, _]) (R1 := []) h (fun W hφ => (q7 _ (q23 _ (q44 _ (q214 _ (q230 _ (q291 _ (q297 _ hφ))))))))) (.inr rfl)
   replace hm := ite_f hm (of_decide_eq_false h302)
   iterate 6 refine g_no rfl rfl rfl rfl rfl h302 ?_
   refine g_v rfl (r_pick0 rfl h302) <| g_v rfl r_move ?_
   iterate 5 refine g_no rfl rfl rfl rfl rfl rfl ?_
   refine g_v rfl (r_pick0 rfl rfl) <| g_v rfl r_move ?_
   iterate 6 refine g_no rfl rfl rfl rfl rfl rfl ?_
   refine g_v rfl (r_pick0 rfl rfl) <| g_v rfl r_move ?_
   iterate 7 refine g_no rfl rfl rfl rfl rfl rfl ?_
   refine g_v rfl (r_pick0 rfl rfl) <| g_v rfl r_assign <| g_nil <| d_then ?_
   refine c_flat [(6, .bool false)] ⟨rfl, trivial⟩ (fun u => ?_)
   refine c_ret ?_
   cases hm
   exact d_retC () Try.results8 (res_tmp (res_nil rfl)) trivial (fun W h => ok_pre (H1 := [_, _]) (R1 := []) h (fun W hφ => (q7 _ (q23 _ (q44 _ (q214 _ (q230 _ (q291 _ (q297 _ hφ))))))))) (.inr rfl)
  replace hm := ite_f hm (bool_nt h301)
  iterate 4 refine g_no rfl rfl rfl rfl rfl h301 ?_
  refine g_v rfl (r_pick0 rfl h301) <| g_v rfl r_move ?_
  iterate 7 refine g_no rfl rfl rfl rfl rfl rfl ?_
  refine g_v rfl (r_pick0 rfl rfl) <| g_v rfl r_move ?_
  iterate 5 refine g_no rfl rfl rfl rfl rfl rfl ?_
  refine g_v rfl (r_pick0 rfl rfl) <| g_v rfl r_move ?_
  iterate 6 refine g_no rfl rfl rfl rfl rfl rfl ?_
  refine g_v rfl (r_pick0 rfl rfl) <| g_v rfl r_move ?_
  iterate 7 refine g_no rfl rfl rfl rfl rfl rfl ?_
  refine g_v rfl (r_pick0 rfl rfl) <| g_v rfl r_assign <| g_nil <| d_then ?_
  refine c_flat [(6, .bool false)] ⟨rfl, trivial⟩ (fun u => ?_)
  refine c_ret ?_
  cases hm
  exact d_retC () Try.results8 (res_tmp (res_nil rfl)) trivial (fun W h => ok_pre (H1 := [_, _]) (R1 := []) h (fun W hφ => (q7 _ (q23 _ (q44 _ (q214 _ (q230 _ (q291 _ (q297 _ hφ))))))))) (.inr rfl)
 replace hm := ite_f hm (bool_nt h300)
 refine g_v rfl (r_pick0 rfl h300) <| g_v rfl r_move ?_
 iterate 5 refine g_no rfl rfl rfl rfl rfl rfl ?_
 refine g_v rfl (r_pick0 rfl rfl) <| g_v rfl r_move ?_
 iterate 7 refine g_no rfl rfl rfl rfl rfl rfl ?_
 refine g_v rfl (r_pick0 rfl rfl) <| g_v rfl r_move ?_
 iterate 5 refine g_no rfl rfl rfl rfl rfl rfl ?_
 refine g_v rfl (r_pick0 rfl rfl) <| g_v rfl r_move ?_
 iterate 6 refine g_no rfl rfl rfl rfl rfl rfl ?_
 refine g_v rfl (r_pick0 rfl rfl) <| g_v rfl r_move ?_
 iterate 7 refine g_no rfl rfl rfl rfl rfl rfl ?_
 refine g_v rfl (r_pick0 rfl rfl) <| g_v rfl r_assign <| g_nil <| d_then ?_
 refine c_flat [(6, .bool false)] ⟨rfl, trivial⟩ (fun u => ?_)
 refine c_ret ?_
 cases hm
 exact d_retC () Try.results8 (res_tmp (res_nil rfl)) trivial (fun W h => ok_pre (H1 := [_, _]) (R1 := []) h (fun W hφ => (q7 _ (q23 _ (q44 _ (q214 _ (q230 _ (q291 _ (q297 _ hφ))))))))) (.inr rfl)
end Go.Proofs.Ytoglbdaagfoddaa
