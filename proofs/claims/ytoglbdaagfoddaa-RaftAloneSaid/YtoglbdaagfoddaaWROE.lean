import Derived.Test.YtoglbdaagfoddaaWROD
set_option maxRecDepth 100000
set_option maxHeartbeats 4000000
set_option linter.unusedVariables false
set_option linter.unusedSimpArgs false
namespace Go.Proofs.Ytoglbdaagfoddaa
open Go.RowKit Go.Proofs.YtoglbdaagfoddaaW.PrintLast
noncomputable def m_law12_RaftAlone_j1 (x3 : Int) (x1 : Bool) (i219 : Int) (i220 : Int) (i221 : Int) (i222 : Int) (i223 : Int) (i224 : Int) (i225 : Int) (l226 : List Int) (s230 : ByteArray) (i231 : Int) (i232 : Int) (l233 : List GEntry) (l237 : List Int) (l241 : List GMark) : Option Bool :=
  (m_raft_New x3 (⟨i224, i225, l226, s230, (⟨i231, i232, l233⟩ : GLog)⟩ : GHard) i222).bind fun x246 =>
  if x1 = true then
    if x246.fCommit = i222 then
      (m_plog_Last x246.fHard.fLog).bind fun x278 =>
      (m_plog_Last (⟨i231, i232, l233⟩ : GLog)).bind fun x280 =>
      if x278 = x280 then
        some (decide (x246.fRole = 0))
      else
        some false
    else
      some false
  else
    some false
noncomputable def m_law12_RaftAlone_j3 (i355 : Int) (i356 : Int) (i357 : Int) (i358 : Int) (i359 : Int) (i360 : Int) (i361 : Int) (l362 : List Int) (s366 : ByteArray) (i367 : Int) (i368 : Int) (l369 : List GEntry) (l373 : List Int) (l377 : List GMark) (i354 : Int) (s463 : ByteArray) : Option ((Int × Int × Int × Int × Int × Int × Int × Int × (List Int) × ByteArray × Int × Int × (List GEntry) × (List Int) × (List GMark)) ⊕ ((Int × Int × Int × Int × Int × Int × Int × (List Int) × ByteArray × Int × Int × (List GEntry) × (List Int) × (List GMark)) ⊕ Bool)) :=
  (m_raft_Propose (⟨i355, i356, i357, i358, i359, (⟨i360, i361, l362, s366, (⟨i367, i368, l369⟩ : GLog)⟩ : GHard), l373, l377⟩ : GRaft) 0 s463).bind fun (z487 : GRaft × (List GNote) × Int × Int) =>
  (m_plog_Get z487.1.fHard.fLog z487.2.2.1).bind fun (z492 : GEntry × Bool) =>
  if z487.2.2.2 ≠ 0 then
    some (.inr (.inr false))
  else
    if (z487.2.1.length : Int) ≠ 0 then
      some (.inr (.inr false))
    else
      if z487.2.2.1 ≠ w64 (i354 + 2) then
        some (.inr (.inr false))
      else
        if z487.1.fCommit ≠ z487.2.2.1 then
          some (.inr (.inr false))
        else
          if z492.2 = true then
            if z492.1.fData = s463 then
              some (.inl (w64 (i354 + 1), z487.1.fMe, z487.1.fRole, z487.1.fLeader, z487.1.fCommit, z487.1.fLeft, z487.1.fHard.fTerm, z487.1.fHard.fVote, z487.1.fHard.fVoters, z487.1.fHard.fSnap, z487.1.fHard.fLog.fBase, z487.1.fHard.fLog.fBaseTerm, z487.1.fHard.fLog.fEntries, z487.1.fVotes, z487.1.fMarks))
            else
              some (.inr (.inr false))
          else
            some (.inr (.inr false))
noncomputable def m_law12_RaftAlone_s2 (p1 : List ByteArray) (i354 : Int) (i355 : Int) (i356 : Int) (i357 : Int) (i358 : Int) (i359 : Int) (i360 : Int) (i361 : Int) (l362 : List Int) (s366 : ByteArray) (i367 : Int) (i368 : Int) (l369 : List GEntry) (l373 : List Int) (l377 : List GMark) : Option ((Int × Int × Int × Int × Int × Int × Int × Int × (List Int) × ByteArray × Int × Int × (List GEntry) × (List Int) × (List GMark)) ⊕ ((Int × Int × Int × Int × Int × Int × Int × (List Int) × ByteArray × Int × Int × (List GEntry) × (List Int) × (List GMark)) ⊕ Bool)) :=
  if i354 < (p1.length : Int) then
    if i354 < 30 then
      (at_ p1 i354).bind fun x457 =>
      if 100 < (x457.size : Int) then
        (scutHi x457 100).bind fun s502 =>
        m_law12_RaftAlone_j3 i355 i356 i357 i358 i359 i360 i361 l362 s366 i367 i368 l369 l373 l377 i354 s502
      else
        m_law12_RaftAlone_j3 i355 i356 i357 i358 i359 i360 i361 l362 s366 i367 i368 l369 l373 l377 i354 x457
    else
      some (.inr (.inl (i355, i356, i357, i358, i359, i360, i361, l362, s366, i367, i368, l369, l373, l377)))
  else
    some (.inr (.inl (i355, i356, i357, i358, i359, i360, i361, l362, s366, i367, i368, l369, l373, l377)))
noncomputable def m_law12_RaftAlone (p0 : Int) (p1 : List ByteArray) : Option Bool :=
  (m_law12_awake).bind fun x1 =>
  (m_law12_pick p0 64).bind fun x3 =>
  (m_raft_New x3 (⟨0, 0, [x3], (⟨#[]⟩ : ByteArray), (⟨0, 0, ([] : List GEntry)⟩ : GLog)⟩ : GHard) 0).bind fun x8 =>
  (m_raft_Tick x8 3).bind fun (z44 : GRaft × (List GNote)) =>
  if z44.1.fRole ≠ 2 then
    some false
  else
    if z44.1.fCommit ≠ 1 then
      some false
    else
      (loop (fun s => m_law12_RaftAlone_s2 p1 s.1 s.2.1 s.2.2.1 s.2.2.2.1 s.2.2.2.2.1 s.2.2.2.2.2.1 s.2.2.2.2.2.2.1 s.2.2.2.2.2.2.2.1 s.2.2.2.2.2.2.2.2.1 s.2.2.2.2.2.2.2.2.2.1 s.2.2.2.2.2.2.2.2.2.2.1 s.2.2.2.2.2.2.2.2.2.2.2.1 s.2.2.2.2.2.2.2.2.2.2.2.2.1 s.2.2.2.2.2.2.2.2.2.2.2.2.2.1 s.2.2.2.2.2.2.2.2.2.2.2.2.2.2) (0, z44.1.fMe, z44.1.fRole, z44.1.fLeader, z44.1.fCommit, z44.1.fLeft, z44.1.fHard.fTerm, z44.1.fHard.fVote, z44.1.fHard.fVoters, z44.1.fHard.fSnap, z44.1.fHard.fLog.fBase, z44.1.fHard.fLog.fBaseTerm, z44.1.fHard.fLog.fEntries, z44.1.fVotes, z44.1.fMarks)).bind fun e => Sum.elim (fun e => m_law12_RaftAlone_j1 x3 x1 e.1 e.2.1 e.2.2.1 e.2.2.2.1 e.2.2.2.2.1 e.2.2.2.2.2.1 e.2.2.2.2.2.2.1 e.2.2.2.2.2.2.2.1 e.2.2.2.2.2.2.2.2.1 e.2.2.2.2.2.2.2.2.2.1 e.2.2.2.2.2.2.2.2.2.2.1 e.2.2.2.2.2.2.2.2.2.2.2.1 e.2.2.2.2.2.2.2.2.2.2.2.2.1 e.2.2.2.2.2.2.2.2.2.2.2.2.2) (fun x => some x) e
theorem c_law12_RaftAlone {w0 : World} {M : Nat → Prop} {H : List (Nat × Nat × Obj)} {R : List (Nat × Row)} {φ : World → Prop} (p0 : Int) (p1 : List ByteArray) (Ap1_0 : Option Addr) (cp1_0 : Nat) (hcp1_0 : p1.length ≤ cp1_0) (fp1_0 : ∀ W, (Sta.mk w0 M H R φ).ok W → Cl W Ap1_0 (p1.flatMap (fun x : ByteArray => [Value.string x]))) (r : Bool) (hm : m_law12_RaftAlone p0 p1 = some r) :
    Cn Try.prog 5 #[.int .i64 p0, .slice Ap1_0 p1.length cp1_0] ⟨w0, M, H, R, φ⟩ (fun x : Unit => .bool r) (fun x => True) (fun x => ⟨w0, M, H, R, φ⟩) := by
 unfold m_law12_RaftAlone at hm
 refine cn_intro (fn := Try.f5) (N := 133) Try.func5 rfl Try.ntmps5 rfl <| c_seq <| c_region <| g_v rfl r_assign <| g_nil <| d_then <| c_seq <| c_region ?_
 replace hm := bnd hm
 obtain ⟨x1, hx2, hm⟩ := hm
 refine g_cn ⟨w0, M, _, _, φ⟩ (fun _ h => h) Try.call9 rfl rfl (c_law12_awake  _ hx2) (fun _ _ => ?_)
 refine g_v rfl r_assign <| g_nil <| d_then <| c_seq <| c_region <| g_v rfl r_move ?_
 replace hm := bnd hm
 obtain ⟨x3, hx4, hm⟩ := hm
 refine g_cn ⟨w0, M, _, _, φ⟩ (fun _ h => h) Try.call15 rfl rfl (c_law12_pick p0 64 _ hx4) (fun _ _ => ?_)
 refine g_v rfl r_assign <| g_nil <| d_then <| c_seq <| c_region <| g_v rfl r_move <| g_v rfl r_move ?_
 refine g_e rfl (e_lit (tag := 100240) (l := [x3]) (enc := (fun x : Int => [Value.int .i64 x])) (sz := 1) rfl Try.underlying23 (lit3_0 _) rfl rfl (fun _ => rfl)) (fun g5 _ => ?_)
 refine g_v rfl (r_build _ rfl (bld40_1 _ _ _)) ?_
 refine g_shut (tag := 100240) rfl (fun φ6 q6' => ?_)
 have q6 : ∀ W, φ6 W → φ W := fun W h => (q6' W h).1
 have f7 := fun (W : World) (h : φ6 W) => (q6' W h).2
 replace hm := bnd hm
 obtain ⟨x8, hx9, hm⟩ := hm
 refine g_cn ⟨w0, M, _, _, φ6⟩ (fun _ h => h) Try.call16 rfl rfl (c_raft_New x3 (⟨0, 0, [x3], (⟨#[]⟩ : ByteArray), (⟨0, 0, ([] : List GEntry)⟩ : GLog)⟩ : GHard) (some ⟨g5, 0, none⟩) 1 (Nat.le_refl _) (fun W h => f7 W h) none 0 (Nat.le_refl 0) (fun W _ => Cl.nil _ _) 0 _ hx9) (fun ⟨A10, c11, A13, c14, A16, c17, A19, c20⟩ ⟨hc11, hc14, hc17, hc20⟩ => ?_)
 refine g_abs (fun φ22 q22' => ?_)
 have q22 : ∀ W, φ22 W → φ6 W := fun W h => (q22' W h).1
 have f12 := fun (W : World) (h : φ22 W) => (q22' W h).2.1
 have f15 := fun (W : World) (h : φ22 W) => (q22' W h).2.2.1
 have f18 := fun (W : World) (h : φ22 W) => (q22' W h).2.2.2.1
 have f21 := fun (W : World) (h : φ22 W) => (q22' W h).2.2.2.2
 replace hm := bnd hm
 obtain ⟨⟨x23, x24⟩, hx25, hm⟩ := hm
 refine g_cn ⟨w0, M, _, _, φ22⟩ (fun _ h => h) Try.call18 rfl rfl (c_raft_Tick x8 A10 c11 hc11 (fun W h => f12 W h) A13 c14 hc14 (fun W h => f15 W h) A16 c17 hc17 (fun W h => f18 W h) A19 c20 hc20 (fun W h => f21 W h) 3 _ hx25) (fun ⟨A26, c27, A29, c30, A32, c33, A35, c36, A38, c39, ps41⟩ ⟨hc27, hc30, hc33, hc36, hc39⟩ => ?_)
 refine g_sta _ (fun W h => (ok_frontR (t := 2004) (t' := 100274) h rfl)) ?_
 refine g_abs (fun φ43 q43' => ?_)
 have q43 : ∀ W, φ43 W → φ22 W := fun W h => (q43' W h).1
 have f28 := fun (W : World) (h : φ43 W) => (q43' W h).2.1
 have f31 := fun (W : World) (h : φ43 W) => (q43' W h).2.2.1
 have f34 := fun (W : World) (h : φ43 W) => (q43' W h).2.2.2.1
 have f37 := fun (W : World) (h : φ43 W) => (q43' W h).2.2.2.2.1
 have f42 := fun (W : World) (h : φ43 W) => (q43' W h).2.2.2.2.2
 refine g_v rfl r_move <| g_v rfl (r_extract rfl rfl) <| g_v rfl (r_extract rfl rfl) ?_
 refine g_e rfl (e_alloc 100070 Try.zeroValue43) (fun g45 _ => ?_)
 refine g_storeL (tag := 100070) rfl rfl rfl rfl Try.sizeOf43 rfl rfl <| g_v rfl r_assign <| g_nil <| d_then ?_
 refine c_flat [(1, .slice Ap1_0 p1.length cp1_0), (5, .bool x1), (6, .int .i64 x3), (7, .pointer (some ⟨g45, 0, none⟩))] ⟨rfl, rfl, rfl, rfl, trivial⟩ (fun u => ?_)
 refine c_sta ⟨w0, M, (100070, g45, .cells #[.int .i64 x23.fMe, .int .i64 x23.fRole, .int .i64 x23.fLeader, .int .i64 x23.fCommit, .int .i64 x23.fLeft, .int .i64 x23.fHard.fTerm, .int .i64 x23.fHard.fVote, .slice A26 x23.fHard.fVoters.length c27, .string x23.fHard.fSnap, .int .i64 x23.fHard.fLog.fBase, .int .i64 x23.fHard.fLog.fBaseTerm, .slice A29 x23.fHard.fLog.fEntries.length c30, .slice A32 x23.fVotes.length c33, .slice A35 x23.fMarks.length c36] 43 (0, 0)) :: H, (100274, ⟨.slice A38 x24.length c39, 25, 11, x24.length, (x24.zip ps41).flatMap GNote.encP⟩) :: R, φ43⟩ (fun _ h => h) <| c_seq <| c_seq <| c_region <| g_v rfl (r_field (n := 1) Try.underlying43 rfl Try.sizeOf3 rfl rfl) <| g_v rfl (r_load (tag := 100070) rfl rfl rfl Try.isAgg3) <| g_v rfl (r_neq rfl rfl) <| g_v rfl r_move ?_
 refine g_if rfl rfl rfl rfl rfl (fun h46 => ?_) (fun h46 => ?_)
 ·
  replace hm := ite_f hm (of_decide_eq_false h46)
  refine g_v rfl (r_field (n := 3) Try.underlying43 rfl Try.sizeOf3 rfl rfl) <| g_do rfl rfl rfl rfl rfl h46 <| g_v rfl (r_load (tag := 100070) rfl rfl rfl Try.isAgg3) <| g_do rfl rfl rfl rfl rfl h46 <| g_v rfl (r_neq rfl rfl) <| g_v rfl (r_pick0 rfl h46) <| g_nil <| d_then ?_
  refine c_cond rfl (fun h47 => ?_) (fun h47 => ?_)
  ·
   replace hm := ite_t hm (of_decide_eq_true h47)
   refine c_seq <| c_region <| g_v rfl r_assign <| g_nil <| d_then ?_
   refine c_flat [(4, .bool false)] ⟨rfl, trivial⟩ (fun u => ?_)
   refine c_ret <| d_ret_then ?_
   replace hm := Option.some.inj hm
   subst hm
   refine d_retC () Try.results5 ?_ trivial (fun W h => ok_pre (H1 := [_]) (R1 := [_]) h (fun W hφ => (q6 _ (q22 _ (q43 _ hφ))))) (.inr rfl)
   refine res_tmp <| res_nil ?_
   exact rfl
  ·
   replace hm := ite_f hm (of_decide_eq_false h47)
   refine c_skip <| d_then <| c_seq ?_
   refine c_cut (ι := Int × Int × Int × Int × Int × Int × Int × (List Int) × ByteArray × Int × Int × (List GEntry) × (List Int) × (List GMark) × Option Addr × Nat × Option Addr × Nat × Option Addr × Nat × Option Addr × Nat) [5, 6, 7] (fun ⟨i219, i220, i221, i222, i223, i224, i225, l226, s230, i231, i232, l233, l237, l241, A227, c228, A234, c235, A238, c239, A242, c243⟩ => []) (fun ⟨i219, i220, i221, i222, i223, i224, i225, l226, s230, i231, i232, l233, l237, l241, A227, c228, A234, c235, A238, c239, A242, c243⟩ => ⟨w0, M, (100070, g45, .cells #[.int .i64 i219, .int .i64 i220, .int .i64 i221, .int .i64 i222, .int .i64 i223, .int .i64 i224, .int .i64 i225, .slice A227 l226.length c228, .string s230, .int .i64 i231, .int .i64 i232, .slice A234 l233.length c235, .slice A238 l237.length c239, .slice A242 l241.length c243] 43 (0, 0)) :: H, R, fun W => φ43 W ∧ Cl W A227 (l226.flatMap (fun x : Int => [Value.int .i64 x])) ∧ Cl W A234 (l233.flatMap GEntry.enc) ∧ Cl W A238 (l237.flatMap (fun x : Int => [Value.int .i64 x])) ∧ Cl W A242 (l241.flatMap GMark.enc)⟩) (fun ⟨i219, i220, i221, i222, i223, i224, i225, l226, s230, i231, i232, l233, l237, l241, A227, c228, A234, c235, A238, c239, A242, c243⟩ => m_law12_RaftAlone_j1 x3 x1 i219 i220 i221 i222 i223 i224 i225 l226 s230 i231 i232 l233 l237 l241 = some r ∧ l226.length ≤ c228 ∧ l233.length ≤ c235 ∧ l237.length ≤ c239 ∧ l241.length ≤ c243) ?_ (fun ⟨i219, i220, i221, i222, i223, i224, i225, l226, s230, i231, i232, l233, l237, l241, A227, c228, A234, c235, A238, c239, A242, c243⟩ u ⟨hm, hc228, hc235, hc239, hc243⟩ => ?_)
   ·
    refine c_seq <| c_region <| g_v rfl r_assign <| g_nil <| d_then ?_
    refine c_flat [(1, .slice Ap1_0 p1.length cp1_0), (5, .bool x1), (6, .int .i64 x3), (7, .pointer (some ⟨g45, 0, none⟩)), (9, .int .i64 0)] ⟨rfl, rfl, rfl, rfl, rfl, trivial⟩ (fun u => ?_)
    refine c_block ?_
    replace hm := bnd hm
    obtain ⟨out2, hl2, hr2⟩ := hm
    obtain ⟨n453', hl2⟩ := loop_lp hl2
    refine c_loopU (ι := Nat × Int × Int × Int × Int × Int × Int × Int × Int × (List Int) × ByteArray × Int × Int × (List GEntry) × (List Int) × (List GMark) × Option Addr × Nat × Option Addr × Nat × Option Addr × Nat × Option Addr × Nat) [1, 5, 6, 7, 9] (fun ⟨n453, i354, i355, i356, i357, i358, i359, i360, i361, l362, s366, i367, i368, l369, l373, l377, A363, c364, A370, c371, A374, c375, A378, c379⟩ => [(9, .int .i64 i354)]) (fun ⟨n453, i354, i355, i356, i357, i358, i359, i360, i361, l362, s366, i367, i368, l369, l373, l377, A363, c364, A370, c371, A374, c375, A378, c379⟩ => ⟨w0, M, (100070, g45, .cells #[.int .i64 i355, .int .i64 i356, .int .i64 i357, .int .i64 i358, .int .i64 i359, .int .i64 i360, .int .i64 i361, .slice A363 l362.length c364, .string s366, .int .i64 i367, .int .i64 i368, .slice A370 l369.length c371, .slice A374 l373.length c375, .slice A378 l377.length c379] 43 (0, 0)) :: H, R, fun W => φ43 W ∧ Cl W A363 (l362.flatMap (fun x : Int => [Value.int .i64 x])) ∧ Cl W A370 (l369.flatMap GEntry.enc) ∧ Cl W A374 (l373.flatMap (fun x : Int => [Value.int .i64 x])) ∧ Cl W A378 (l377.flatMap GMark.enc)⟩) (fun ⟨n453, i354, i355, i356, i357, i358, i359, i360, i361, l362, s366, i367, i368, l369, l373, l377, A363, c364, A370, c371, A374, c375, A378, c379⟩ => Lp (fun s => m_law12_RaftAlone_s2 p1 s.1 s.2.1 s.2.2.1 s.2.2.2.1 s.2.2.2.2.1 s.2.2.2.2.2.1 s.2.2.2.2.2.2.1 s.2.2.2.2.2.2.2.1 s.2.2.2.2.2.2.2.2.1 s.2.2.2.2.2.2.2.2.2.1 s.2.2.2.2.2.2.2.2.2.2.1 s.2.2.2.2.2.2.2.2.2.2.2.1 s.2.2.2.2.2.2.2.2.2.2.2.2.1 s.2.2.2.2.2.2.2.2.2.2.2.2.2.1 s.2.2.2.2.2.2.2.2.2.2.2.2.2.2) n453 (i354, i355, i356, i357, i358, i359, i360, i361, l362, s366, i367, i368, l369, l373, l377) out2 ∧ l362.length ≤ c364 ∧ l369.length ≤ c371 ∧ l373.length ≤ c375 ∧ l377.length ≤ c379) (fun ⟨n453, i354, i355, i356, i357, i358, i359, i360, i361, l362, s366, i367, i368, l369, l373, l377, A363, c364, A370, c371, A374, c375, A378, c379⟩ => n453) (n453', 0, x23.fMe, x23.fRole, x23.fLeader, x23.fCommit, x23.fLeft, x23.fHard.fTerm, x23.fHard.fVote, x23.fHard.fVoters, x23.fHard.fSnap, x23.fHard.fLog.fBase, x23.fHard.fLog.fBaseTerm, x23.fHard.fLog.fEntries, x23.fVotes, x23.fMarks, A26, c27, A29, c30, A32, c33, A35, c36) ⟨hl2, hc27, hc30, hc33, hc36⟩ ⟨rfl, rfl, rfl, rfl, rfl, trivial⟩ (fun W h => (h.dropR (t := 100274) rfl).phi (fun W hφ => ⟨hφ, (fun W h => f28 W h) W hφ, (fun W h => f31 W h) W hφ, (fun W h => f34 W h) W hφ, (fun W h => f37 W h) W hφ⟩)) (fun ⟨n453, i354, i355, i356, i357, i358, i359, i360, i361, l362, s366, i367, i368, l369, l373, l377, A363, c364, A370, c371, A374, c375, A378, c379⟩ u ⟨hlp, hc364, hc371, hc375, hc379⟩ => ?_)
    obtain ⟨o2, hm, hnx2⟩ := lp_step hlp
    clear hlp
    replace hm : m_law12_RaftAlone_s2 p1 i354 i355 i356 i357 i358 i359 i360 i361 l362 s366 i367 i368 l369 l373 l377 = some o2 := hm
    unfold m_law12_RaftAlone_s2 at hm
    refine c_abs (fun φ454 q454' => ?_)
    have q454 : ∀ W, φ454 W → φ43 W := fun W h => (q454' W h).1
    have f365 := fun (W : World) (h : φ454 W) => (q454' W h).2.1
    have f372 := fun (W : World) (h : φ454 W) => (q454' W h).2.2.1
    have f376 := fun (W : World) (h : φ454 W) => (q454' W h).2.2.2.1
    have f380 := fun (W : World) (h : φ454 W) => (q454' W h).2.2.2.2
    refine c_flat [(1, .slice Ap1_0 p1.length cp1_0), (5, .bool x1), (6, .int .i64 x3), (7, .pointer (some ⟨g45, 0, none⟩)), (9, .int .i64 i354)] ⟨rfl, rfl, rfl, rfl, rfl, trivial⟩ (fun u => ?_)
    refine c_sta ⟨w0, M, (100070, g45, .cells #[.int .i64 i355, .int .i64 i356, .int .i64 i357, .int .i64 i358, .int .i64 i359, .int .i64 i360, .int .i64 i361, .slice A363 l362.length c364, .string s366, .int .i64 i367, .int .i64 i368, .slice A370 l369.length c371, .slice A374 l373.length c375, .slice A378 l377.length c379] 43 (0, 0)) :: H, R, φ454⟩ (fun _ h => h) <| c_seq <| c_seq <| c_region <| g_v rfl r_move <| g_v rfl r_move <| g_v rfl (r_lenL Try.underlying52 rfl) <| g_v rfl (r_lss rfl rfl) <| g_v rfl r_move ?_
    refine g_if rfl rfl rfl rfl rfl (fun h455 => ?_) (fun h455 => ?_)
    ·
     replace hm := ite_t hm (of_decide_eq_true h455)
     refine g_v rfl r_move <| g_do rfl rfl rfl rfl rfl h455 <| g_v rfl (r_lss rfl rfl) <| g_v rfl (r_pick1 rfl h455) <| g_nil <| d_then ?_
     refine c_cond rfl (fun h456 => ?_) (fun h456 => ?_)
     ·
      replace hm := ite_t hm (of_decide_eq_true h456)
      refine c_skip <| d_then <| c_seq <| c_block <| c_seq <| c_region <| g_v rfl r_move <| g_v rfl r_move ?_
      replace hm := bnd hm
      obtain ⟨x457, hx457, hm⟩ := hm
      refine g_know _ (fun W hS => cl_at (p := (Sta.mk w0 M H R φ).ok) (sz := 1) (fun _ => rfl) (by decide) (ok_pre (H1 := [_]) (R1 := []) hS (fun W h => (q6 _ (q22 _ (q43 _ (q454 _ h)))))) fp1_0 hx457) ?_
      rintro ⟨ad458, hA460, f459⟩
      refine g_v rfl (r_ix Try.underlying52 Try.sizeOf9 rfl hA460 rfl hx457) <| g_v rfl (r_ld rfl Try.isAgg9 (fun W hS => Cl.head (f459 W (ok_pre (H1 := [_]) (R1 := []) hS (fun W h => (q6 _ (q22 _ (q43 _ (q454 _ h))))))))) <| g_v rfl r_assign <| g_nil <| d_then ?_
      refine c_flat [(1, .slice Ap1_0 p1.length cp1_0), (5, .bool x1), (6, .int .i64 x3), (7, .pointer (some ⟨g45, 0, none⟩)), (9, .int .i64 i354), (10, .string x457)] ⟨rfl, rfl, rfl, rfl, rfl, rfl, trivial⟩ (fun u => ?_)
      refine c_seq ?_
      refine c_cut (ι := ByteArray) [1, 5, 6, 7, 9, 10] (fun s463 => [(10, .string s463)]) (fun s463 => ⟨w0, M, (100070, g45, .cells #[.int .i64 i355, .int .i64 i356, .int .i64 i357, .int .i64 i358, .int .i64 i359, .int .i64 i360, .int .i64 i361, .slice A363 l362.length c364, .string s366, .int .i64 i367, .int .i64 i368, .slice A370 l369.length c371, .slice A374 l373.length c375, .slice A378 l377.length c379] 43 (0, 0)) :: H, R, φ454⟩) (fun s463 => m_law12_RaftAlone_j3 i355 i356 i357 i358 i359 i360 i361 l362 s366 i367 i368 l369 l373 l377 i354 s463 = some o2) ?_ (fun s463 u hm => ?_)
      ·
       refine c_seq <| c_region <| g_v rfl r_move <| g_v rfl (r_len Try.underlying9 rfl) <| g_v rfl (r_gtr rfl rfl) <| g_nil <| d_then ?_
       refine c_cond rfl (fun h501 => ?_) (fun h501 => ?_)
       ·
        replace hm := ite_t hm (of_decide_eq_true h501)
        refine c_region <| g_v rfl r_move ?_
        replace hm := bnd hm
        obtain ⟨s502, hs502, hm⟩ := hm
        refine g_v rfl (r_scutHi Try.underlying9 rfl rfl hs502) <| g_v rfl r_assign <| g_nil ?_
        exact d_round s502 hm Nat.zero_lt_one ⟨rfl, rfl, rfl, rfl, rfl, rfl, trivial⟩ (fun W h => h.phi (fun W hφ => hφ))
       ·
        replace hm := ite_f hm (of_decide_eq_false h501)
        refine c_skip ?_
        exact d_round x457 hm Nat.zero_lt_one ⟨rfl, rfl, rfl, rfl, rfl, rfl, trivial⟩ (fun W h => h.phi (fun W hφ => hφ))
      ·
       unfold m_law12_RaftAlone_j3 at hm
       refine d_flat [(1, .slice Ap1_0 p1.length cp1_0), (5, .bool x1), (6, .int .i64 x3), (7, .pointer (some ⟨g45, 0, none⟩)), (9, .int .i64 i354), (10, .string s463)] ⟨rfl, rfl, rfl, rfl, rfl, rfl, trivial⟩ (fun u => ?_)
       refine d_then <| c_seq <| c_region <| g_v rfl (r_loadA (tag := 100070) rfl rfl Try.isAgg43 Try.sizeOf43 rfl rfl) <| g_v rfl r_move ?_
       replace hm := bnd hm
       obtain ⟨⟨x464, x465, x466, x467⟩, hx468, hm⟩ := hm
       refine g_cn ⟨w0, M, _, _, φ454⟩ (fun _ h => h) Try.call19 rfl rfl (c_raft_Propose (⟨i355, i356, i357, i358, i359, (⟨i360, i361, l362, s366, (⟨i367, i368, l369⟩ : GLog)⟩ : GHard), l373, l377⟩ : GRaft) A363 c364 hc364 (fun W h => f365 W h) A370 c371 hc371 (fun W h => f372 W h) A374 c375 hc375 (fun W h => f376 W h) A378 c379 hc379 (fun W h => f380 W h) 0 s463 _ hx468) (fun ⟨A469, c470, A472, c473, A475, c476, A478, c479, A481, c482, ps484⟩ ⟨hc470, hc473, hc476, hc479, hc482⟩ => ?_)
       refine g_sta _ (fun W h => (ok_frontR (t := 2004) (t' := 100604) h rfl)) ?_
       refine g_abs (fun φ486 q486' => ?_)
       have q486 : ∀ W, φ486 W → φ454 W := fun W h => (q486' W h).1
       have f471 := fun (W : World) (h : φ486 W) => (q486' W h).2.1
       have f474 := fun (W : World) (h : φ486 W) => (q486' W h).2.2.1
       have f477 := fun (W : World) (h : φ486 W) => (q486' W h).2.2.2.1
       have f480 := fun (W : World) (h : φ486 W) => (q486' W h).2.2.2.2.1
       have f485 := fun (W : World) (h : φ486 W) => (q486' W h).2.2.2.2.2
       refine g_v rfl r_move <| g_v rfl (r_extract rfl rfl) <| g_v rfl (r_extract rfl rfl) <| g_v rfl (r_extract rfl rfl) <| g_v rfl (r_extract rfl rfl) ?_
       refine g_e rfl (e_alloc 100110 Try.zeroValue43) (fun g488 _ => ?_)
       refine g_storeL (tag := 100110) rfl rfl rfl rfl Try.sizeOf43 rfl rfl <| g_v rfl r_assign <| g_v rfl r_assign <| g_v rfl r_assign <| g_nil <| d_then ?_
       refine c_flat [(1, .slice Ap1_0 p1.length cp1_0), (5, .bool x1), (6, .int .i64 x3), (7, .pointer (some ⟨g45, 0, none⟩)), (9, .int .i64 i354), (10, .string s463), (11, .pointer (some ⟨g488, 0, none⟩)), (12, .slice A481 x465.length c482), (13, .int .i64 x466), (14, .int .i64 x467)] ⟨rfl, rfl, rfl, rfl, rfl, rfl, rfl, rfl, rfl, rfl, trivial⟩ (fun u => ?_)
       refine c_sta ⟨w0, M, (100110, g488, .cells #[.int .i64 x464.fMe, .int .i64 x464.fRole, .int .i64 x464.fLeader, .int .i64 x464.fCommit, .int .i64 x464.fLeft, .int .i64 x464.fHard.fTerm, .int .i64 x464.fHard.fVote, .slice A469 x464.fHard.fVoters.length c470, .string x464.fHard.fSnap, .int .i64 x464.fHard.fLog.fBase, .int .i64 x464.fHard.fLog.fBaseTerm, .slice A472 x464.fHard.fLog.fEntries.length c473, .slice A475 x464.fVotes.length c476, .slice A478 x464.fMarks.length c479] 43 (0, 0)) :: (100070, g45, .cells #[.int .i64 i355, .int .i64 i356, .int .i64 i357, .int .i64 i358, .int .i64 i359, .int .i64 i360, .int .i64 i361, .slice A363 l362.length c364, .string s366, .int .i64 i367, .int .i64 i368, .slice A370 l369.length c371, .slice A374 l373.length c375, .slice A378 l377.length c379] 43 (0, 0)) :: H, (100604, ⟨.slice A481 x465.length c482, 25, 11, x465.length, (x465.zip ps484).flatMap GNote.encP⟩) :: R, φ486⟩ (fun _ h => h) <| c_seq <| c_region <| g_v rfl (r_field (n := 5) Try.underlying43 rfl Try.sizeOf40 rfl rfl) <| g_v rfl (r_field (n := 9) Try.underlying40 rfl Try.sizeOf38 rfl rfl) <| g_v rfl (r_loadA (tag := 100110) rfl rfl Try.isAgg38 Try.sizeOf38 rfl rfl) <| g_v rfl r_move ?_
       replace hm := bnd hm
       obtain ⟨⟨x489, x490⟩, hx491, hm⟩ := hm
       refine g_cn ⟨w0, M, _, _, φ486⟩ (fun _ h => h) Try.call20 rfl rfl (c_plog_Get x464.fHard.fLog A472 c473 hc473 (fun W hS => f474 W hS.now) x466 _ hx491) (fun _ _ => ?_)
       refine g_v rfl r_move <| g_v rfl (r_extract rfl rfl) <| g_v rfl (r_extract rfl rfl) ?_
       refine g_e rfl (e_alloc 100150 Try.zeroValue36) (fun g493 _ => ?_)
       refine g_storeL (tag := 100150) rfl rfl rfl rfl Try.sizeOf36 rfl rfl <| g_v rfl r_assign <| g_nil <| d_then ?_
       refine c_flat [(1, .slice Ap1_0 p1.length cp1_0), (5, .bool x1), (6, .int .i64 x3), (7, .pointer (some ⟨g45, 0, none⟩)), (9, .int .i64 i354), (10, .string s463), (11, .pointer (some ⟨g488, 0, none⟩)), (12, .slice A481 x465.length c482), (13, .int .i64 x466), (14, .int .i64 x467), (15, .pointer (some ⟨g493, 0, none⟩)), (16, .bool x490)] ⟨rfl, rfl, rfl, rfl, rfl, rfl, rfl, rfl, rfl, rfl, rfl, rfl, trivial⟩ (fun u => ?_)
       refine c_sta ⟨w0, M, (100150, g493, .cells #[.int .i64 x489.fTerm, .int .i64 x489.fKind, .string x489.fData] 36 (0, 0)) :: (100110, g488, .cells #[.int .i64 x464.fMe, .int .i64 x464.fRole, .int .i64 x464.fLeader, .int .i64 x464.fCommit, .int .i64 x464.fLeft, .int .i64 x464.fHard.fTerm, .int .i64 x464.fHard.fVote, .slice A469 x464.fHard.fVoters.length c470, .string x464.fHard.fSnap, .int .i64 x464.fHard.fLog.fBase, .int .i64 x464.fHard.fLog.fBaseTerm, .slice A472 x464.fHard.fLog.fEntries.length c473, .slice A475 x464.fVotes.length c476, .slice A478 x464.fMarks.length c479] 43 (0, 0)) :: (100070, g45, .cells #[.int .i64 i355, .int .i64 i356, .int .i64 i357, .int .i64 i358, .int .i64 i359, .int .i64 i360, .int .i64 i361, .slice A363 l362.length c364, .string s366, .int .i64 i367, .int .i64 i368, .slice A370 l369.length c371, .slice A374 l373.length c375, .slice A378 l377.length c379] 43 (0, 0)) :: H, (100604, ⟨.slice A481 x465.length c482, 25, 11, x465.length, (x465.zip ps484).flatMap GNote.encP⟩) :: R, φ486⟩ (fun _ h => h) <| c_seq <| c_seq <| c_region <| g_v rfl r_move <| g_v rfl (r_neq rfl rfl) <| g_v rfl r_move ?_
       refine g_if rfl rfl rfl rfl rfl (fun h494 => ?_) (fun h494 => ?_)
       ·
        replace hm := ite_f hm (of_decide_eq_false h494)
        refine g_v rfl r_move <| g_do rfl rfl rfl rfl rfl h494 <| g_v rfl (r_lenL Try.underlying48 rfl) <| g_do rfl rfl rfl rfl rfl h494 <| g_v rfl (r_neq rfl rfl) <| g_v rfl (r_pick0 rfl h494) <| g_v rfl r_move ?_
        refine g_if rfl rfl rfl rfl rfl (fun h495 => ?_) (fun h495 => ?_)
        ·
         replace hm := ite_f hm (of_decide_eq_false h495)
         refine g_v rfl r_move <| g_do rfl rfl rfl rfl rfl h495 <| g_v rfl r_move <| g_do rfl rfl rfl rfl rfl h495 <| g_v rfl (r_add rfl rfl rfl) <| g_do rfl rfl rfl rfl rfl h495 <| g_v rfl (r_neq rfl rfl) <| g_v rfl (r_pick0 rfl h495) <| g_v rfl r_move ?_
         refine g_if rfl rfl rfl rfl rfl (fun h496 => ?_) (fun h496 => ?_)
         ·
          replace hm := ite_f hm (of_decide_eq_false h496)
          refine g_v rfl (r_field (n := 3) Try.underlying43 rfl Try.sizeOf3 rfl rfl) <| g_do rfl rfl rfl rfl rfl h496 <| g_v rfl (r_load (tag := 100110) rfl rfl rfl Try.isAgg3) <| g_do rfl rfl rfl rfl rfl h496 <| g_v rfl r_move <| g_do rfl rfl rfl rfl rfl h496 <| g_v rfl (r_neq rfl rfl) <| g_v rfl (r_pick0 rfl h496) <| g_v rfl r_move ?_
          refine g_if rfl rfl rfl rfl rfl (fun h497 => ?_) (fun h497 => ?_)
          ·
           replace hm := ite_f hm (of_decide_eq_false h497)
           refine g_v rfl r_move <| g_do rfl rfl rfl rfl rfl h497 <| g_v rfl (r_not rfl) <| g_v rfl (r_pick0 rfl h497) <| g_v rfl r_move ?_
           refine g_if rfl rfl rfl rfl rfl (fun h498 => ?_) (fun h498 => ?_)
           ·
            have h498' : x490 = true := by revert h498; cases x490 <;> simp
            replace hm := ite_t hm h498'
            refine g_v rfl (r_field (n := 2) Try.underlying36 rfl Try.sizeOf9 rfl rfl) <| g_do rfl rfl rfl rfl rfl h498 <| g_v rfl (r_load (tag := 100150) rfl rfl rfl Try.isAgg9) <| g_do rfl rfl rfl rfl rfl h498 <| g_v rfl r_move <| g_do rfl rfl rfl rfl rfl h498 <| g_v rfl (r_neqT rfl rfl) <| g_v rfl (r_pick0 rfl h498) <| g_nil <| d_then ?_
            refine c_flat [(1, .slice Ap1_0 p1.length cp1_0), (5, .bool x1), (6, .int .i64 x3), (7, .pointer (some ⟨g45, 0, none⟩)), (9, .int .i64 i354), (11, .pointer (some ⟨g488, 0, none⟩)), (101, .bool (!(decide (x489.fData = s463))))] ⟨rfl, rfl, rfl, rfl, rfl, rfl, rfl, trivial⟩ (fun u => ?_)
            refine c_cond rfl (fun h499 => ?_) (fun h499 => ?_)
            ·
             have h499' : (decide (x489.fData = s463)) = false := by revert h499; cases (decide (x489.fData = s463)) <;> simp
             replace hm := ite_f hm (of_decide_eq_false h499')
             refine c_seq <| c_region <| g_v rfl r_assign <| g_nil <| d_then <| c_ret <| d_ret_then <| d_ret_block <| d_ret_then <| d_ret_then ?_
             refine d_ret_block <| d_ret_then <| d_ret_then ?_
             replace hm := nx_out (C := (fun e : (Int × Int × Int × Int × Int × Int × Int × (List Int) × ByteArray × Int × Int × (List GEntry) × (List Int) × (List GMark)) ⊕ Bool => Sum.elim (fun e => m_law12_RaftAlone_j1 x3 x1 e.1 e.2.1 e.2.2.1 e.2.2.2.1 e.2.2.2.2.1 e.2.2.2.2.2.1 e.2.2.2.2.2.2.1 e.2.2.2.2.2.2.2.1 e.2.2.2.2.2.2.2.2.1 e.2.2.2.2.2.2.2.2.2.1 e.2.2.2.2.2.2.2.2.2.2.1 e.2.2.2.2.2.2.2.2.2.2.2.1 e.2.2.2.2.2.2.2.2.2.2.2.2.1 e.2.2.2.2.2.2.2.2.2.2.2.2.2) (fun x => some x) e = some r)) hm hnx2 hr2
             replace hm : some false = some r := hm
             replace hm := Option.some.inj hm
             subst hm
             refine d_retC () Try.results5 ?_ trivial (fun W h => ok_pre (H1 := [_, _, _]) (R1 := [_]) h (fun W hφ => (q6 _ (q22 _ (q43 _ (q454 _ (q486 _ hφ))))))) (.inr rfl)
             refine res_tmp <| res_nil ?_
             exact rfl
            ·
             have h499' : (decide (x489.fData = s463)) = true := by revert h499; cases (decide (x489.fData = s463)) <;> simp
             replace hm := ite_t hm (of_decide_eq_true h499')
             refine c_skip <| d_then <| c_region <| g_v rfl (r_loadA (tag := 100110) rfl rfl Try.isAgg43 Try.sizeOf43 rfl rfl) <| g_storeL (tag := 100070) rfl rfl rfl rfl Try.sizeOf43 rfl rfl <| g_nil <| d_normal_block <| d_then <| c_region <| g_v rfl r_move ?_
             refine g_v rfl (r_add rfl rfl rfl) <| g_v rfl r_assign <| g_nil ?_
             obtain ⟨n500, hn500, hlp⟩ := nx_inl hm hnx2
             exact d_round (n500, w64 (i354 + 1), x464.fMe, x464.fRole, x464.fLeader, x464.fCommit, x464.fLeft, x464.fHard.fTerm, x464.fHard.fVote, x464.fHard.fVoters, x464.fHard.fSnap, x464.fHard.fLog.fBase, x464.fHard.fLog.fBaseTerm, x464.fHard.fLog.fEntries, x464.fVotes, x464.fMarks, A469, c470, A472, c473, A475, c476, A478, c479) ⟨hlp, hc470, hc473, hc476, hc479⟩ hn500 ⟨rfl, rfl, rfl, rfl, rfl, trivial⟩ (fun W h => (((h.dropR (t := 100604) rfl).dropH (t := 100150) rfl).dropH (t := 100110) rfl).phi (fun W hφ => ⟨(q454 _ (q486 _ hφ)), (fun W h => f471 W h) W hφ, (fun W h => f474 W h) W hφ, (fun W h => f477 W h) W hφ, (fun W h => f480 W h) W hφ⟩))
           ·
            have h498' : x490 = false := by revert h498; cases x490 <;> simp
            replace hm := ite_f hm (bool_nt h498')
            refine g_no rfl rfl rfl rfl rfl h498 <| g_no rfl rfl rfl rfl rfl h498 <| g_no rfl rfl rfl rfl rfl h498 <| g_v rfl (r_pick1 rfl h498) <| g_nil <| d_then ?_
            refine c_flat [(1, .slice Ap1_0 p1.length cp1_0), (5, .bool x1), (6, .int .i64 x3), (7, .pointer (some ⟨g45, 0, none⟩)), (9, .int .i64 i354), (11, .pointer (some ⟨g488, 0, none⟩)), (101, .bool true)] ⟨rfl, rfl, rfl, rfl, rfl, rfl, rfl, trivial⟩ (fun u => ?_)
            refine c_cond1 rfl rfl <| c_seq <| c_region <| g_v rfl r_assign <| g_nil <| d_then <| c_ret <| d_ret_then <| d_ret_block <| d_ret_then ?_
            refine d_ret_then <| d_ret_block <| d_ret_then <| d_ret_then ?_
            replace hm := nx_out (C := (fun e : (Int × Int × Int × Int × Int × Int × Int × (List Int) × ByteArray × Int × Int × (List GEntry) × (List Int) × (List GMark)) ⊕ Bool => Sum.elim (fun e => m_law12_RaftAlone_j1 x3 x1 e.1 e.2.1 e.2.2.1 e.2.2.2.1 e.2.2.2.2.1 e.2.2.2.2.2.1 e.2.2.2.2.2.2.1 e.2.2.2.2.2.2.2.1 e.2.2.2.2.2.2.2.2.1 e.2.2.2.2.2.2.2.2.2.1 e.2.2.2.2.2.2.2.2.2.2.1 e.2.2.2.2.2.2.2.2.2.2.2.1 e.2.2.2.2.2.2.2.2.2.2.2.2.1 e.2.2.2.2.2.2.2.2.2.2.2.2.2) (fun x => some x) e = some r)) hm hnx2 hr2
            replace hm : some false = some r := hm
            replace hm := Option.some.inj hm
            subst hm
            refine d_retC () Try.results5 ?_ trivial (fun W h => ok_pre (H1 := [_, _, _]) (R1 := [_]) h (fun W hφ => (q6 _ (q22 _ (q43 _ (q454 _ (q486 _ hφ))))))) (.inr rfl)
            refine res_tmp <| res_nil ?_
            exact rfl
          ·
           replace hm := ite_t hm (of_decide_eq_true h497)
           refine g_no rfl rfl rfl rfl rfl h497 <| g_v rfl (r_pick1 rfl h497) <| g_v rfl r_move <| g_no rfl rfl rfl rfl rfl rfl <| g_no rfl rfl rfl rfl rfl rfl <| g_no rfl rfl rfl rfl rfl rfl <| g_no rfl rfl rfl rfl rfl rfl <| g_v rfl (r_pick1 rfl rfl) <| g_nil <| d_then ?_
           refine c_flat [(1, .slice Ap1_0 p1.length cp1_0), (5, .bool x1), (6, .int .i64 x3), (7, .pointer (some ⟨g45, 0, none⟩)), (9, .int .i64 i354), (11, .pointer (some ⟨g488, 0, none⟩)), (101, .bool true)] ⟨rfl, rfl, rfl, rfl, rfl, rfl, rfl, trivial⟩ (fun u => ?_)
           refine c_cond1 rfl rfl <| c_seq <| c_region <| g_v rfl r_assign <| g_nil <| d_then <| c_ret <| d_ret_then <| d_ret_block <| d_ret_then ?_
           refine d_ret_then <| d_ret_block <| d_ret_then <| d_ret_then ?_
           replace hm := nx_out (C := (fun e : (Int × Int × Int × Int × Int × Int × Int × (List Int) × ByteArray × Int × Int × (List GEntry) × (List Int) × (List GMark)) ⊕ Bool => Sum.elim (fun e => m_law12_RaftAlone_j1 x3 x1 e.1 e.2.1 e.2.2.1 e.2.2.2.1 e.2.2.2.2.1 e.2.2.2.2.2.1 e.2.2.2.2.2.2.1 e.2.2.2.2.2.2.2.1 e.2.2.2.2.2.2.2.2.1 e.2.2.2.2.2.2.2.2.2.1 e.2.2.2.2.2.2.2.2.2.2.1 e.2.2.2.2.2.2.2.2.2.2.2.1 e.2.2.2.2.2.2.2.2.2.2.2.2.1 e.2.2.2.2.2.2.2.2.2.2.2.2.2) (fun x => some x) e = some r)) hm hnx2 hr2
           replace hm : some false = some r := hm
           replace hm := Option.some.inj hm
           subst hm
           refine d_retC () Try.results5 ?_ trivial (fun W h => ok_pre (H1 := [_, _, _]) (R1 := [_]) h (fun W hφ => (q6 _ (q22 _ (q43 _ (q454 _ (q486 _ hφ))))))) (.inr rfl)
           refine res_tmp <| res_nil ?_
           exact rfl
         ·
          replace hm := ite_t hm (of_decide_eq_true h496)
          refine g_no rfl rfl rfl rfl rfl h496 <| g_no rfl rfl rfl rfl rfl h496 <| g_no rfl rfl rfl rfl rfl h496 <| g_v rfl (r_pick1 rfl h496) <| g_v rfl r_move <| g_no rfl rfl rfl rfl rfl rfl <| g_no rfl rfl rfl rfl rfl rfl <| g_v rfl (r_pick1 rfl rfl) <| g_v rfl r_move <| g_no rfl rfl rfl rfl rfl rfl ?_
          refine g_no rfl rfl rfl rfl rfl rfl <| g_no rfl rfl rfl rfl rfl rfl <| g_no rfl rfl rfl rfl rfl rfl <| g_v rfl (r_pick1 rfl rfl) <| g_nil <| d_then ?_
          refine c_flat [(1, .slice Ap1_0 p1.length cp1_0), (5, .bool x1), (6, .int .i64 x3), (7, .pointer (some ⟨g45, 0, none⟩)), (9, .int .i64 i354), (11, .pointer (some ⟨g488, 0, none⟩)), (101, .bool true)] ⟨rfl, rfl, rfl, rfl, rfl, rfl, rfl, trivial⟩ (fun u => ?_)
          refine c_cond1 rfl rfl <| c_seq <| c_region <| g_v rfl r_assign <| g_nil <| d_then <| c_ret <| d_ret_then <| d_ret_block <| d_ret_then ?_
          refine d_ret_then <| d_ret_block <| d_ret_then <| d_ret_then ?_
          replace hm := nx_out (C := (fun e : (Int × Int × Int × Int × Int × Int × Int × (List Int) × ByteArray × Int × Int × (List GEntry) × (List Int) × (List GMark)) ⊕ Bool => Sum.elim (fun e => m_law12_RaftAlone_j1 x3 x1 e.1 e.2.1 e.2.2.1 e.2.2.2.1 e.2.2.2.2.1 e.2.2.2.2.2.1 e.2.2.2.2.2.2.1 e.2.2.2.2.2.2.2.1 e.2.2.2.2.2.2.2.2.1 e.2.2.2.2.2.2.2.2.2.1 e.2.2.2.2.2.2.2.2.2.2.1 e.2.2.2.2.2.2.2.2.2.2.2.1 e.2.2.2.2.2.2.2.2.2.2.2.2.1 e.2.2.2.2.2.2.2.2.2.2.2.2.2) (fun x => some x) e = some r)) hm hnx2 hr2
          replace hm : some false = some r := hm
          replace hm := Option.some.inj hm
          subst hm
          refine d_retC () Try.results5 ?_ trivial (fun W h => ok_pre (H1 := [_, _, _]) (R1 := [_]) h (fun W hφ => (q6 _ (q22 _ (q43 _ (q454 _ (q486 _ hφ))))))) (.inr rfl)
          refine res_tmp <| res_nil ?_
          exact rfl
        ·
         replace hm := ite_t hm (of_decide_eq_true h495)
         refine g_no rfl rfl rfl rfl rfl h495 <| g_no rfl rfl rfl rfl rfl h495 <| g_no rfl rfl rfl rfl rfl h495 <| g_v rfl (r_pick1 rfl h495) <| g_v rfl r_move <| g_no rfl rfl rfl rfl rfl rfl <| g_no rfl rfl rfl rfl rfl rfl <| g_no rfl rfl rfl rfl rfl rfl <| g_no rfl rfl rfl rfl rfl rfl <| g_v rfl (r_pick1 rfl rfl) ?_
         refine g_v rfl r_move <| g_no rfl rfl rfl rfl rfl rfl <| g_no rfl rfl rfl rfl rfl rfl <| g_v rfl (r_pick1 rfl rfl) <| g_v rfl r_move <| g_no rfl rfl rfl rfl rfl rfl <| g_no rfl rfl rfl rfl rfl rfl <| g_no rfl rfl rfl rfl rfl rfl <| g_no rfl rfl rfl rfl rfl rfl <| g_v rfl (r_pick1 rfl rfl) ?_
         refine g_nil <| d_then ?_
         refine c_flat [(1, .slice Ap1_0 p1.length cp1_0), (5, .bool x1), (6, .int .i64 x3), (7, .pointer (some ⟨g45, 0, none⟩)), (9, .int .i64 i354), (11, .pointer (some ⟨g488, 0, none⟩)), (101, .bool true)] ⟨rfl, rfl, rfl, rfl, rfl, rfl, rfl, trivial⟩ (fun u => ?_)
         refine c_cond1 rfl rfl <| c_seq <| c_region <| g_v rfl r_assign <| g_nil <| d_then <| c_ret <| d_ret_then <| d_ret_block <| d_ret_then ?_
         refine d_ret_then <| d_ret_block <| d_ret_then <| d_ret_then ?_
         replace hm := nx_out (C := (fun e : (Int × Int × Int × Int × Int × Int × Int × (List Int) × ByteArray × Int × Int × (List GEntry) × (List Int) × (List GMark)) ⊕ Bool => Sum.elim (fun e => m_law12_RaftAlone_j1 x3 x1 e.1 e.2.1 e.2.2.1 e.2.2.2.1 e.2.2.2.2.1 e.2.2.2.2.2.1 e.2.2.2.2.2.2.1 e.2.2.2.2.2.2.2.1 e.2.2.2.2.2.2.2.2.1 e.2.2.2.2.2.2.2.2.2.1 e.2.2.2.2.2.2.2.2.2.2.1 e.2.2.2.2.2.2.2.2.2.2.2.1 e.2.2.2.2.2.2.2.2.2.2.2.2.1 e.2.2.2.2.2.2.2.2.2.2.2.2.2) (fun x => some x) e = some r)) hm hnx2 hr2
         replace hm : some false = some r := hm
         replace hm := Option.some.inj hm
         subst hm
         refine d_retC () Try.results5 ?_ trivial (fun W h => ok_pre (H1 := [_, _, _]) (R1 := [_]) h (fun W hφ => (q6 _ (q22 _ (q43 _ (q454 _ (q486 _ hφ))))))) (.inr rfl)
         refine res_tmp <| res_nil ?_
         exact rfl
       ·
        replace hm := ite_t hm (of_decide_eq_true h494)
        refine g_no rfl rfl rfl rfl rfl h494 <| g_no rfl rfl rfl rfl rfl h494 <| g_v rfl (r_pick1 rfl h494) <| g_v rfl r_move <| g_no rfl rfl rfl rfl rfl rfl <| g_no rfl rfl rfl rfl rfl rfl <| g_no rfl rfl rfl rfl rfl rfl <| g_no rfl rfl rfl rfl rfl rfl <| g_v rfl (r_pick1 rfl rfl) <| g_v rfl r_move ?_
        refine g_no rfl rfl rfl rfl rfl rfl <| g_no rfl rfl rfl rfl rfl rfl <| g_no rfl rfl rfl rfl rfl rfl <| g_no rfl rfl rfl rfl rfl rfl <| g_v rfl (r_pick1 rfl rfl) <| g_v rfl r_move <| g_no rfl rfl rfl rfl rfl rfl <| g_no rfl rfl rfl rfl rfl rfl <| g_v rfl (r_pick1 rfl rfl) <| g_v rfl r_move ?_
        refine g_no rfl rfl rfl rfl rfl rfl <| g_no rfl rfl rfl rfl rfl rfl <| g_no rfl rfl rfl rfl rfl rfl <| g_no rfl rfl rfl rfl rfl rfl <| g_v rfl (r_pick1 rfl rfl) <| g_nil <| d_then ?_
        refine c_flat [(1, .slice Ap1_0 p1.length cp1_0), (5, .bool x1), (6, .int .i64 x3), (7, .pointer (some ⟨g45, 0, none⟩)), (9, .int .i64 i354), (11, .pointer (some ⟨g488, 0, none⟩)), (101, .bool true)] ⟨rfl, rfl, rfl, rfl, rfl, rfl, rfl, trivial⟩ (fun u => ?_)
        refine c_cond1 rfl rfl <| c_seq <| c_region <| g_v rfl r_assign <| g_nil <| d_then <| c_ret <| d_ret_then <| d_ret_block <| d_ret_then ?_
        refine d_ret_then <| d_ret_block <| d_ret_then <| d_ret_then ?_
        replace hm := nx_out (C := (fun e : (Int × Int × Int × Int × Int × Int × Int × (List Int) × ByteArray × Int × Int × (List GEntry) × (List Int) × (List GMark)) ⊕ Bool => Sum.elim (fun e => m_law12_RaftAlone_j1 x3 x1 e.1 e.2.1 e.2.2.1 e.2.2.2.1 e.2.2.2.2.1 e.2.2.2.2.2.1 e.2.2.2.2.2.2.1 e.2.2.2.2.2.2.2.1 e.2.2.2.2.2.2.2.2.1 e.2.2.2.2.2.2.2.2.2.1 e.2.2.2.2.2.2.2.2.2.2.1 e.2.2.2.2.2.2.2.2.2.2.2.1 e.2.2.2.2.2.2.2.2.2.2.2.2.1 e.2.2.2.2.2.2.2.2.2.2.2.2.2) (fun x => some x) e = some r)) hm hnx2 hr2
        replace hm : some false = some r := hm
        replace hm := Option.some.inj hm
        subst hm
        refine d_retC () Try.results5 ?_ trivial (fun W h => ok_pre (H1 := [_, _, _]) (R1 := [_]) h (fun W hφ => (q6 _ (q22 _ (q43 _ (q454 _ (q486 _ hφ))))))) (.inr rfl)
        refine res_tmp <| res_nil ?_
        exact rfl
     ·
      replace hm := ite_f hm (of_decide_eq_false h456)
      refine c_exit <| d_exit_then <| d_exit_then <| d_exit_block ?_
      replace hm := nx_out (C := (fun e : (Int × Int × Int × Int × Int × Int × Int × (List Int) × ByteArray × Int × Int × (List GEntry) × (List Int) × (List GMark)) ⊕ Bool => Sum.elim (fun e => m_law12_RaftAlone_j1 x3 x1 e.1 e.2.1 e.2.2.1 e.2.2.2.1 e.2.2.2.2.1 e.2.2.2.2.2.1 e.2.2.2.2.2.2.1 e.2.2.2.2.2.2.2.1 e.2.2.2.2.2.2.2.2.1 e.2.2.2.2.2.2.2.2.2.1 e.2.2.2.2.2.2.2.2.2.2.1 e.2.2.2.2.2.2.2.2.2.2.2.1 e.2.2.2.2.2.2.2.2.2.2.2.2.1 e.2.2.2.2.2.2.2.2.2.2.2.2.2) (fun x => some x) e = some r)) hm hnx2 hr2
      exact d_round (i355, i356, i357, i358, i359, i360, i361, l362, s366, i367, i368, l369, l373, l377, A363, c364, A370, c371, A374, c375, A378, c379) ⟨hm, hc364, hc371, hc375, hc379⟩ Nat.zero_lt_one ⟨rfl, rfl, rfl, trivial⟩ (fun W h => h.phi (fun W hφ => ⟨(q454 _ hφ), (fun W h => f365 W h) W hφ, (fun W h => f372 W h) W hφ, (fun W h => f376 W h) W hφ, (fun W h => f380 W h) W hφ⟩))
    ·
     replace hm := ite_f hm (of_decide_eq_false h455)
     refine g_no rfl rfl rfl rfl rfl h455 <| g_v rfl (r_pick0 rfl h455) <| g_nil <| d_then <| c_cond0 rfl rfl <| c_exit <| d_exit_then <| d_exit_then <| d_exit_block ?_
     replace hm := nx_out (C := (fun e : (Int × Int × Int × Int × Int × Int × Int × (List Int) × ByteArray × Int × Int × (List GEntry) × (List Int) × (List GMark)) ⊕ Bool => Sum.elim (fun e => m_law12_RaftAlone_j1 x3 x1 e.1 e.2.1 e.2.2.1 e.2.2.2.1 e.2.2.2.2.1 e.2.2.2.2.2.1 e.2.2.2.2.2.2.1 e.2.2.2.2.2.2.2.1 e.2.2.2.2.2.2.2.2.1 e.2.2.2.2.2.2.2.2.2.1 e.2.2.2.2.2.2.2.2.2.2.1 e.2.2.2.2.2.2.2.2.2.2.2.1 e.2.2.2.2.2.2.2.2.2.2.2.2.1 e.2.2.2.2.2.2.2.2.2.2.2.2.2) (fun x => some x) e = some r)) hm hnx2 hr2
     exact d_round (i355, i356, i357, i358, i359, i360, i361, l362, s366, i367, i368, l369, l373, l377, A363, c364, A370, c371, A374, c375, A378, c379) ⟨hm, hc364, hc371, hc375, hc379⟩ Nat.zero_lt_one ⟨rfl, rfl, rfl, trivial⟩ (fun W h => h.phi (fun W hφ => ⟨(q454 _ hφ), (fun W h => f365 W h) W hφ, (fun W h => f372 W h) W hφ, (fun W h => f376 W h) W hφ, (fun W h => f380 W h) W hφ⟩))
   ·
    unfold m_law12_RaftAlone_j1 at hm
    refine d_abs (fun φ245 q245' => ?_)
    have q245 : ∀ W, φ245 W → φ43 W := fun W h => (q245' W h).1
    have f229 := fun (W : World) (h : φ245 W) => (q245' W h).2.1
    have f236 := fun (W : World) (h : φ245 W) => (q245' W h).2.2.1
    have f240 := fun (W : World) (h : φ245 W) => (q245' W h).2.2.2.1
    have f244 := fun (W : World) (h : φ245 W) => (q245' W h).2.2.2.2
    refine d_flat [(5, .bool x1), (6, .int .i64 x3), (7, .pointer (some ⟨g45, 0, none⟩))] ⟨rfl, rfl, rfl, trivial⟩ (fun u => ?_)
    refine d_sta ⟨w0, M, (100070, g45, .cells #[.int .i64 i219, .int .i64 i220, .int .i64 i221, .int .i64 i222, .int .i64 i223, .int .i64 i224, .int .i64 i225, .slice A227 l226.length c228, .string s230, .int .i64 i231, .int .i64 i232, .slice A234 l233.length c235, .slice A238 l237.length c239, .slice A242 l241.length c243] 43 (0, 0)) :: H, R, φ245⟩ (fun _ h => h) <| d_then <| c_seq <| c_region <| g_v rfl r_move <| g_v rfl (r_field (n := 5) Try.underlying43 rfl Try.sizeOf40 rfl rfl) <| g_v rfl (r_loadA (tag := 100070) rfl rfl Try.isAgg40 Try.sizeOf40 rfl rfl) <| g_v rfl (r_field (n := 3) Try.underlying43 rfl Try.sizeOf3 rfl rfl) <| g_v rfl (r_load (tag := 100070) rfl rfl rfl Try.isAgg3) ?_
    replace hm := bnd hm
    obtain ⟨x246, hx247, hm⟩ := hm
    refine g_cn ⟨w0, M, _, _, φ245⟩ (fun _ h => h) Try.call16 rfl rfl (c_raft_New x3 (⟨i224, i225, l226, s230, (⟨i231, i232, l233⟩ : GLog)⟩ : GHard) A227 c228 hc228 (fun W h => f229 W h) A234 c235 hc235 (fun W h => f236 W h) i222 _ hx247) (fun ⟨A248, c249, A251, c252, A254, c255, A257, c258⟩ ⟨hc249, hc252, hc255, hc258⟩ => ?_)
    refine g_abs (fun φ260 q260' => ?_)
    have q260 : ∀ W, φ260 W → φ245 W := fun W h => (q260' W h).1
    have f250 := fun (W : World) (h : φ260 W) => (q260' W h).2.1
    have f253 := fun (W : World) (h : φ260 W) => (q260' W h).2.2.1
    have f256 := fun (W : World) (h : φ260 W) => (q260' W h).2.2.2.1
    have f259 := fun (W : World) (h : φ260 W) => (q260' W h).2.2.2.2
    refine g_e rfl (e_alloc 100170 Try.zeroValue43) (fun g261 _ => ?_)
    refine g_storeL (tag := 100170) rfl rfl rfl rfl Try.sizeOf43 rfl rfl <| g_nil <| d_then <| c_seq <| ga_start (n := 25) ⟨w0, M, (100170, g261, .cells #[.int .i64 x246.fMe, .int .i64 x246.fRole, .int .i64 x246.fLeader, .int .i64 x246.fCommit, .int .i64 x246.fLeft, .int .i64 x246.fHard.fTerm, .int .i64 x246.fHard.fVote, .slice A248 x246.fHard.fVoters.length c249, .string x246.fHard.fSnap, .int .i64 x246.fHard.fLog.fBase, .int .i64 x246.fHard.fLog.fBaseTerm, .slice A251 x246.fHard.fLog.fEntries.length c252, .slice A254 x246.fVotes.length c255, .slice A257 x246.fMarks.length c258] 43 (0, 0)) :: (100070, g45, .cells #[.int .i64 i219, .int .i64 i220, .int .i64 i221, .int .i64 i222, .int .i64 i223, .int .i64 i224, .int .i64 i225, .slice A227 l226.length c228, .string s230, .int .i64 i231, .int .i64 i232, .slice A234 l233.length c235, .slice A238 l237.length c239, .slice A242 l241.length c243] 43 (0, 0)) :: H, R, φ260⟩ [] #[false, false, false, false, false, false, false, false, false, false, false, false, false, false, false, false, false, false, false, false, false, false, false, false, false] (fun W h => h.phi (fun W hφ => hφ)) mixed rfl rfl <| ga_r (i := 0) (bz 25 1) rfl (by kernel_rfl) (by decide) rfl (r_move) <| ga_r (i := 1) (bz 25 3) rfl (by kernel_rfl) (by decide) rfl (r_move) ?_
    refine ga_if (t := 110) rfl (fun h276 => ?_) (fun h276 => ?_)
    ·
     replace hm := ite_t hm h276
     refine ga_do (i := 2) (bz 25 7) rfl (by kernel_rfl) (fun _ _ _ _ h => h) rfl rfl rfl rfl rfl h276 (r_field (n := 3) Try.underlying43 rfl Try.sizeOf3 rfl rfl) <| ga_do (i := 3) (bz 25 15) rfl (by kernel_rfl) (fun _ _ _ _ h => h) rfl rfl rfl rfl rfl h276 (r_load (tag := 100170) rfl rfl rfl Try.isAgg3) <| ga_rG (i := 4) (bz 25 31) rfl (by kernel_rfl) (by decide) rfl rfl rfl rfl rfl h276 (r_field (n := 3) Try.underlying43 rfl Try.sizeOf3 rfl rfl) <| ga_rG (i := 5) (bz 25 63) rfl (by kernel_rfl) (by decide) rfl rfl rfl rfl rfl h276 (r_load (tag := 100070) rfl rfl rfl Try.isAgg3) <| ga_rG (i := 6) (bz 25 127) rfl (by kernel_rfl) (by decide) rfl rfl rfl rfl rfl h276 (r_eql rfl rfl) <| ga_r (i := 7) (bz 25 255) rfl (by kernel_rfl) (by decide) rfl (r_pick1 rfl h276) <| ga_r (i := 8) (bz 25 511) rfl (by kernel_rfl) (by decide) rfl (r_move) ?_
     refine ga_if (t := 117) rfl (fun h277 => ?_) (fun h277 => ?_)
     ·
      replace hm := ite_t hm (of_decide_eq_true h277)
      refine ga_do (i := 9) (bz 25 1023) rfl (by kernel_rfl) (fun _ _ _ _ h => h) rfl rfl rfl rfl rfl h277 (r_field (n := 5) Try.underlying43 rfl Try.sizeOf40 rfl rfl) <| ga_do (i := 10) (bz 25 2047) rfl (by kernel_rfl) (fun _ _ _ _ h => h) rfl rfl rfl rfl rfl h277 (r_field (n := 9) Try.underlying40 rfl Try.sizeOf38 rfl rfl) <| ga_do (i := 11) (bz 25 4095) rfl (by kernel_rfl) (fun _ _ _ _ h => h) rfl rfl rfl rfl rfl h277 (r_loadA (tag := 100170) rfl rfl Try.isAgg38 Try.sizeOf38 rfl rfl) <| ga_do (i := 13) (bz 25 12287) rfl (by kernel_rfl) (fun _ _ _ _ h => h) rfl rfl rfl rfl rfl h277 (r_field (n := 5) Try.underlying43 rfl Try.sizeOf40 rfl rfl) <| ga_do (i := 14) (bz 25 28671) rfl (by kernel_rfl) (fun _ _ _ _ h => h) rfl rfl rfl rfl rfl h277 (r_field (n := 9) Try.underlying40 rfl Try.sizeOf38 rfl rfl) <| ga_do (i := 15) (bz 25 61439) rfl (by kernel_rfl) (fun _ _ _ _ h => h) rfl rfl rfl rfl rfl h277 (r_loadA (tag := 100070) rfl rfl Try.isAgg38 Try.sizeOf38 rfl rfl) ?_
      replace hm := bnd hm
      obtain ⟨x278, hx279, hm⟩ := hm
      refine ga_cnG (first := #[]) (i := 12) (bz 25 65535) rfl (by kernel_rfl) (by decide) rfl rfl rfl rfl h277  ⟨w0, M, _, _, φ260⟩ (fun _ h => h) Try.call21 rfl rfl rfl (c_plog_Last x246.fHard.fLog A251 c252 hc252 (fun W hS => f253 W hS.now) _ hx279) (fun _ W _ h => h.phi (fun W hφ => hφ)) (fun _ _ => ?_)
      replace hm := bnd hm
      obtain ⟨x280, hx281, hm⟩ := hm
      refine ga_cnG (first := #[]) (i := 16) (bz 25 131071) rfl (by kernel_rfl) (by decide) rfl rfl rfl rfl h277  ⟨w0, M, _, _, φ260⟩ (fun _ h => h) Try.call21 rfl rfl rfl (c_plog_Last (⟨i231, i232, l233⟩ : GLog) A234 c235 hc235 (fun W hS => f236 W (q260 _ hS.now)) _ hx281) (fun _ W _ h => h.phi (fun W hφ => hφ)) (fun _ _ => ?_)
      refine ga_rG (i := 17) (bz 25 262143) rfl (by kernel_rfl) (by decide) rfl rfl rfl rfl rfl h277 (r_eql rfl rfl) <| ga_r (i := 18) (bz 25 524287) rfl (by kernel_rfl) (by decide) rfl (r_pick1 rfl h277) <| ga_r (i := 19) (bz 25 1048575) rfl (by kernel_rfl) (by decide) rfl (r_move) ?_
      refine ga_if (t := 128) rfl (fun h282 => ?_) (fun h282 => ?_)
      ·
       replace hm := ite_t hm (of_decide_eq_true h282)
       refine ga_rG (i := 20) (bz 25 2097151) rfl (by kernel_rfl) (by decide) rfl rfl rfl rfl rfl h282 (r_field (n := 1) Try.underlying43 rfl Try.sizeOf3 rfl rfl) <| ga_rG (i := 21) (bz 25 4194303) rfl (by kernel_rfl) (by decide) rfl rfl rfl rfl rfl h282 (r_load (tag := 100170) rfl rfl rfl Try.isAgg3) <| ga_rG (i := 22) (bz 25 8388607) rfl (by kernel_rfl) (by decide) rfl rfl rfl rfl rfl h282 (r_eql rfl rfl) <| ga_r (i := 23) (bz 25 16777215) rfl (by kernel_rfl) (by decide) rfl (r_pick1 rfl h282) <| ga_r (i := 24) (bz 25 33554431) rfl (by kernel_rfl) (by decide) rfl (r_assign) <| ga_done (by kernel_rfl) <| d_then ?_
       refine c_flat [(4, .bool (decide (x246.fRole = 0)))] ⟨rfl, trivial⟩ (fun u => ?_)
       refine c_sta ⟨w0, M, (100170, g261, .cells #[.int .i64 x246.fMe, .int .i64 x246.fRole, .int .i64 x246.fLeader, .int .i64 x246.fCommit, .int .i64 x246.fLeft, .int .i64 x246.fHard.fTerm, .int .i64 x246.fHard.fVote, .slice A248 x246.fHard.fVoters.length c249, .string x246.fHard.fSnap, .int .i64 x246.fHard.fLog.fBase, .int .i64 x246.fHard.fLog.fBaseTerm, .slice A251 x246.fHard.fLog.fEntries.length c252, .slice A254 x246.fVotes.length c255, .slice A257 x246.fMarks.length c258] 43 (0, 0)) :: (100070, g45, .cells #[.int .i64 i219, .int .i64 i220, .int .i64 i221, .int .i64 i222, .int .i64 i223, .int .i64 i224, .int .i64 i225, .slice A227 l226.length c228, .string s230, .int .i64 i231, .int .i64 i232, .slice A234 l233.length c235, .slice A238 l237.length c239, .slice A242 l241.length c243] 43 (0, 0)) :: H, R, φ260⟩ (fun _ h => h) <| c_ret ?_
       replace hm := Option.some.inj hm
       subst hm
       refine d_retC () Try.results5 ?_ trivial (fun W h => ok_pre (H1 := [_, _]) (R1 := []) h (fun W hφ => (q6 _ (q22 _ (q43 _ (q245 _ (q260 _ hφ))))))) (.inr rfl)
       refine res_tmp <| res_nil ?_
       exact rfl
      ·
       replace hm := ite_f hm (of_decide_eq_false h282)
       refine ga_no (i := 20) (bz 25 2097151) rfl (by kernel_rfl) (fun _ _ _ _ h => h) rfl rfl rfl rfl rfl h282 <| ga_no (i := 21) (bz 25 4194303) rfl (by kernel_rfl) (fun _ _ _ _ h => h) rfl rfl rfl rfl rfl h282 <| ga_no (i := 22) (bz 25 8388607) rfl (by kernel_rfl) (fun _ _ _ _ h => h) rfl rfl rfl rfl rfl h282 <| ga_r (i := 23) (bz 25 16777215) rfl (by kernel_rfl) (by decide) rfl (r_pick0 rfl h282) <| ga_r (i := 24) (bz 25 33554431) rfl (by kernel_rfl) (by decide) rfl (r_assign) <| ga_done (by kernel_rfl) <| d_then ?_
       refine c_flat [(4, .bool false)] ⟨rfl, trivial⟩ (fun u => ?_)
       refine c_sta ⟨w0, M, (100170, g261, .cells #[.int .i64 x246.fMe, .int .i64 x246.fRole, .int .i64 x246.fLeader, .int .i64 x246.fCommit, .int .i64 x246.fLeft, .int .i64 x246.fHard.fTerm, .int .i64 x246.fHard.fVote, .slice A248 x246.fHard.fVoters.length c249, .string x246.fHard.fSnap, .int .i64 x246.fHard.fLog.fBase, .int .i64 x246.fHard.fLog.fBaseTerm, .slice A251 x246.fHard.fLog.fEntries.length c252, .slice A254 x246.fVotes.length c255, .slice A257 x246.fMarks.length c258] 43 (0, 0)) :: (100070, g45, .cells #[.int .i64 i219, .int .i64 i220, .int .i64 i221, .int .i64 i222, .int .i64 i223, .int .i64 i224, .int .i64 i225, .slice A227 l226.length c228, .string s230, .int .i64 i231, .int .i64 i232, .slice A234 l233.length c235, .slice A238 l237.length c239, .slice A242 l241.length c243] 43 (0, 0)) :: H, R, φ260⟩ (fun _ h => h) <| c_ret ?_
       replace hm := Option.some.inj hm
       subst hm
       refine d_retC () Try.results5 ?_ trivial (fun W h => ok_pre (H1 := [_, _]) (R1 := []) h (fun W hφ => (q6 _ (q22 _ (q43 _ (q245 _ (q260 _ hφ))))))) (.inr rfl)
       refine res_tmp <| res_nil ?_
       exact rfl
     ·
      replace hm := ite_f hm (of_decide_eq_false h277)
      refine ga_no (i := 9) (bz 25 1023) rfl (by kernel_rfl) (fun _ _ _ _ h => h) rfl rfl rfl rfl rfl h277 <| ga_no (i := 10) (bz 25 2047) rfl (by kernel_rfl) (fun _ _ _ _ h => h) rfl rfl rfl rfl rfl h277 <| ga_no (i := 11) (bz 25 4095) rfl (by kernel_rfl) (fun _ _ _ _ h => h) rfl rfl rfl rfl rfl h277 <| ga_no (i := 12) (bz 25 8191) rfl (by kernel_rfl) (fun _ _ _ _ h => h) rfl rfl rfl rfl rfl h277 <| ga_no (i := 13) (bz 25 16383) rfl (by kernel_rfl) (fun _ _ _ _ h => h) rfl rfl rfl rfl rfl h277 <| ga_no (i := 14) (bz 25 32767) rfl (by kernel_rfl) (fun _ _ _ _ h => h) rfl rfl rfl rfl rfl h277 <| ga_no (i := 15) (bz 25 65535) rfl (by kernel_rfl) (fun _ _ _ _ h => h) rfl rfl rfl rfl rfl h277 <| ga_no (i := 16) (bz 25 131071) rfl (by kernel_rfl) (fun _ _ _ _ h => h) rfl rfl rfl rfl rfl h277 <| ga_no (i := 17) (bz 25 262143) rfl (by kernel_rfl) (fun _ _ _ _ h => h) rfl rfl rfl rfl rfl h277 <| ga_r (i := 18) (bz 25 524287) rfl (by kernel_rfl) (by decide) rfl (r_pick0 rfl h277) ?_
      refine ga_r (i := 19) (bz 25 1048575) rfl (by kernel_rfl) (by decide) rfl (r_move) <| ga_no (i := 20) (bz 25 2097151) rfl (by kernel_rfl) (fun _ _ _ _ h => h) rfl rfl rfl rfl rfl rfl <| ga_no (i := 21) (bz 25 4194303) rfl (by kernel_rfl) (fun _ _ _ _ h => h) rfl rfl rfl rfl rfl rfl <| ga_no (i := 22) (bz 25 8388607) rfl (by kernel_rfl) (fun _ _ _ _ h => h) rfl rfl rfl rfl rfl rfl <| ga_r (i := 23) (bz 25 16777215) rfl (by kernel_rfl) (by decide) rfl (r_pick0 rfl rfl) <| ga_r (i := 24) (bz 25 33554431) rfl (by kernel_rfl) (by decide) rfl (r_assign) <| ga_done (by kernel_rfl) <| d_then ?_
      refine c_flat [(4, .bool false)] ⟨rfl, trivial⟩ (fun u => ?_)
      refine c_sta ⟨w0, M, (100170, g261, .cells #[.int .i64 x246.fMe, .int .i64 x246.fRole, .int .i64 x246.fLeader, .int .i64 x246.fCommit, .int .i64 x246.fLeft, .int .i64 x246.fHard.fTerm, .int .i64 x246.fHard.fVote, .slice A248 x246.fHard.fVoters.length c249, .string x246.fHard.fSnap, .int .i64 x246.fHard.fLog.fBase, .int .i64 x246.fHard.fLog.fBaseTerm, .slice A251 x246.fHard.fLog.fEntries.length c252, .slice A254 x246.fVotes.length c255, .slice A257 x246.fMarks.length c258] 43 (0, 0)) :: (100070, g45, .cells #[.int .i64 i219, .int .i64 i220, .int .i64 i221, .int .i64 i222, .int .i64 i223, .int .i64 i224, .int .i64 i225, .slice A227 l226.length c228, .string s230, .int .i64 i231, .int .i64 i232, .slice A234 l233.length c235, .slice A238 l237.length c239, .slice A242 l241.length c243] 43 (0, 0)) :: H, R, φ260⟩ (fun _ h => h) <| c_ret ?_
      replace hm := Option.some.inj hm
      subst hm
      refine d_retC () Try.results5 ?_ trivial (fun W h => ok_pre (H1 := [_, _]) (R1 := []) h (fun W hφ => (q6 _ (q22 _ (q43 _ (q245 _ (q260 _ hφ))))))) (.inr rfl)
      refine res_tmp <| res_nil ?_
      exact rfl
    ·
     replace hm := ite_f hm (bool_nt h276)
     refine ga_no (i := 2) (bz 25 7) rfl (by kernel_rfl) (fun _ _ _ _ h => h) rfl rfl rfl rfl rfl h276 <| ga_no (i := 3) (bz 25 15) rfl (by kernel_rfl) (fun _ _ _ _ h => h) rfl rfl rfl rfl rfl h276 <| ga_no (i := 4) (bz 25 31) rfl (by kernel_rfl) (fun _ _ _ _ h => h) rfl rfl rfl rfl rfl h276 <| ga_no (i := 5) (bz 25 63) rfl (by kernel_rfl) (fun _ _ _ _ h => h) rfl rfl rfl rfl rfl h276 <| ga_no (i := 6) (bz 25 127) rfl (by kernel_rfl) (fun _ _ _ _ h => h) rfl rfl rfl rfl rfl h276 <| ga_r (i := 7) (bz 25 255) rfl (by kernel_rfl) (by decide) rfl (r_pick0 rfl h276) <| ga_r (i := 8) (bz 25 511) rfl (by kernel_rfl) (by decide) rfl (r_move) <| ga_no (i := 9) (bz 25 1023) rfl (by kernel_rfl) (fun _ _ _ _ h => h) rfl rfl rfl rfl rfl rfl <| ga_no (i := 10) (bz 25 2047) rfl (by kernel_rfl) (fun _ _ _ _ h => h) rfl rfl rfl rfl rfl rfl <| ga_no (i := 11) (bz 25 4095) rfl (by kernel_rfl) (fun _ _ _ _ h => h) rfl rfl rfl rfl rfl rfl ?_
     refine ga_no (i := 12) (bz 25 8191) rfl (by kernel_rfl) (fun _ _ _ _ h => h) rfl rfl rfl rfl rfl rfl <| ga_no (i := 13) (bz 25 16383) rfl (by kernel_rfl) (fun _ _ _ _ h => h) rfl rfl rfl rfl rfl rfl <| ga_no (i := 14) (bz 25 32767) rfl (by kernel_rfl) (fun _ _ _ _ h => h) rfl rfl rfl rfl rfl rfl <| ga_no (i := 15) (bz 25 65535) rfl (by kernel_rfl) (fun _ _ _ _ h => h) rfl rfl rfl rfl rfl rfl <| ga_no (i := 16) (bz 25 131071) rfl (by kernel_rfl) (fun _ _ _ _ h => h) rfl rfl rfl rfl rfl rfl <| ga_no (i := 17) (bz 25 262143) rfl (by kernel_rfl) (fun _ _ _ _ h => h) rfl rfl rfl rfl rfl rfl <| ga_r (i := 18) (bz 25 524287) rfl (by kernel_rfl) (by decide) rfl (r_pick0 rfl rfl) <| ga_r (i := 19) (bz 25 1048575) rfl (by kernel_rfl) (by decide) rfl (r_move) <| ga_no (i := 20) (bz 25 2097151) rfl (by kernel_rfl) (fun _ _ _ _ h => h) rfl rfl rfl rfl rfl rfl <| ga_no (i := 21) (bz 25 4194303) rfl (by kernel_rfl) (fun _ _ _ _ h => h) rfl rfl rfl rfl rfl rfl ?_
     refine ga_no (i := 22) (bz 25 8388607) rfl (by kernel_rfl) (fun _ _ _ _ h => h) rfl rfl rfl rfl rfl rfl <| ga_r (i := 23) (bz 25 16777215) rfl (by kernel_rfl) (by decide) rfl (r_pick0 rfl rfl) <| ga_r (i := 24) (bz 25 33554431) rfl (by kernel_rfl) (by decide) rfl (r_assign) <| ga_done (by kernel_rfl) <| d_then ?_
     refine c_flat [(4, .bool false)] ⟨rfl, trivial⟩ (fun u => ?_)
     refine c_sta ⟨w0, M, (100170, g261, .cells #[.int .i64 x246.fMe, .int .i64 x246.fRole, .int .i64 x246.fLeader, .int .i64 x246.fCommit, .int .i64 x246.fLeft, .int .i64 x246.fHard.fTerm, .int .i64 x246.fHard.fVote, .slice A248 x246.fHard.fVoters.length c249, .string x246.fHard.fSnap, .int .i64 x246.fHard.fLog.fBase, .int .i64 x246.fHard.fLog.fBaseTerm, .slice A251 x246.fHard.fLog.fEntries.length c252, .slice A254 x246.fVotes.length c255, .slice A257 x246.fMarks.length c258] 43 (0, 0)) :: (100070, g45, .cells #[.int .i64 i219, .int .i64 i220, .int .i64 i221, .int .i64 i222, .int .i64 i223, .int .i64 i224, .int .i64 i225, .slice A227 l226.length c228, .string s230, .int .i64 i231, .int .i64 i232, .slice A234 l233.length c235, .slice A238 l237.length c239, .slice A242 l241.length c243] 43 (0, 0)) :: H, R, φ260⟩ (fun _ h => h) <| c_ret ?_
     replace hm := Option.some.inj hm
     subst hm
     refine d_retC () Try.results5 ?_ trivial (fun W h => ok_pre (H1 := [_, _]) (R1 := []) h (fun W hφ => (q6 _ (q22 _ (q43 _ (q245 _ (q260 _ hφ))))))) (.inr rfl)
     refine res_tmp <| res_nil ?_
     exact rfl
 ·
  replace hm := ite_t hm (of_decide_eq_true h46)
  refine g_no rfl rfl rfl rfl rfl h46 <| g_no rfl rfl rfl rfl rfl h46 <| g_v rfl (r_pick1 rfl h46) <| g_nil <| d_then <| c_cond1 rfl rfl <| c_seq <| c_region <| g_v rfl r_assign <| g_nil ?_
  refine d_then <| c_ret <| d_ret_then ?_
  replace hm := Option.some.inj hm
  subst hm
  refine d_retC () Try.results5 ?_ trivial (fun W h => ok_pre (H1 := [_]) (R1 := [_]) h (fun W hφ => (q6 _ (q22 _ (q43 _ hφ))))) (.inr rfl)
  refine res_tmp <| res_nil ?_
  exact rfl
end Go.Proofs.Ytoglbdaagfoddaa
