import Derived.Test.YtpdhdpefdgndeaaWMRC
set_option maxRecDepth 100000
set_option maxHeartbeats 4000000
set_option linter.unusedVariables false
set_option linter.unusedSimpArgs false
namespace Go.Proofs.Ytpdhdpefdgndeaa
open Go.RowKit Go.Proofs.YtpdhdpefdgndeaaW.PrintLast
noncomputable def m_ref06_Read_j1 (p0 : ByteArray) (x28 : Int) (x33 : Int) (x38 : Int) (x3 : GMessage) (l105 : List GQuestion) (i108 : Int) : Option (GMessage × Int) :=
  (m_ref06_records p0 i108 x28).bind fun (z116 : (List GRR) × Int × Int) =>
  if z116.2.2 ≠ 0 then
    some ((⟨0, false, false, false, false, false, 0, 0, ([] : List GQuestion), ([] : List GRR), ([] : List GRR), ([] : List GRR)⟩ : GMessage), z116.2.2)
  else
    (m_ref06_records p0 z116.2.1 x33).bind fun (z125 : (List GRR) × Int × Int) =>
    if z125.2.2 ≠ 0 then
      some ((⟨0, false, false, false, false, false, 0, 0, ([] : List GQuestion), ([] : List GRR), ([] : List GRR), ([] : List GRR)⟩ : GMessage), z125.2.2)
    else
      (m_ref06_records p0 z125.2.1 x38).bind fun (z134 : (List GRR) × Int × Int) =>
      if z134.2.2 ≠ 0 then
        some ((⟨0, false, false, false, false, false, 0, 0, ([] : List GQuestion), ([] : List GRR), ([] : List GRR), ([] : List GRR)⟩ : GMessage), z134.2.2)
      else
        if z134.2.1 ≠ (p0.size : Int) then
          some ((⟨0, false, false, false, false, false, 0, 0, ([] : List GQuestion), ([] : List GRR), ([] : List GRR), ([] : List GRR)⟩ : GMessage), 10)
        else
          some ((⟨x3.fID, x3.fResponse, x3.fAuthoritative, x3.fTruncated, x3.fDesired, x3.fAvailable, x3.fOpcode, x3.fCode, l105, z116.1, z125.1, z134.1⟩ : GMessage), 0)
noncomputable def m_ref06_Read_s2 (x23 : Int) (p0 : ByteArray) (l173 : List GQuestion) (i176 : Int) (i177 : Int) : Option (((List GQuestion) × Int × Int) ⊕ (((List GQuestion) × Int) ⊕ (GMessage × Int))) :=
  if i177 < x23 then
    (m_ref04_Name p0 i176).bind fun (z212 : ByteArray × Int × Int) =>
    if z212.2.2 ≠ 0 then
      some (.inr (.inr ((⟨0, false, false, false, false, false, 0, 0, ([] : List GQuestion), ([] : List GRR), ([] : List GRR), ([] : List GRR)⟩ : GMessage), z212.2.2)))
    else
      (m_ref04_Number p0 z212.2.1 2).bind fun (z218 : Int × Int × Int) =>
      if z218.2.2 ≠ 0 then
        some (.inr (.inr ((⟨0, false, false, false, false, false, 0, 0, ([] : List GQuestion), ([] : List GRR), ([] : List GRR), ([] : List GRR)⟩ : GMessage), z218.2.2)))
      else
        (m_ref04_Number p0 z218.2.1 2).bind fun (z224 : Int × Int × Int) =>
        if z224.2.2 ≠ 0 then
          some (.inr (.inr ((⟨0, false, false, false, false, false, 0, 0, ([] : List GQuestion), ([] : List GRR), ([] : List GRR), ([] : List GRR)⟩ : GMessage), z224.2.2)))
        else
          (app 24 l173 [(⟨z212.1, IntKind.u16.wrap z218.1, IntKind.u16.wrap z224.1⟩ : GQuestion)]).bind fun l227 =>
          some (.inl (l227, z224.2.1, w64 (i177 + 1)))
  else
    some (.inr (.inl (l173, i176)))
noncomputable def m_ref06_Read (p0 : ByteArray) : Option (GMessage × Int) :=
  if 4096 < (p0.size : Int) then
    some ((⟨0, false, false, false, false, false, 0, 0, ([] : List GQuestion), ([] : List GRR), ([] : List GRR), ([] : List GRR)⟩ : GMessage), 11)
  else
    (m_ref06_Head p0).bind fun (z19 : GMessage × Int) =>
    if z19.2 ≠ 0 then
      some ((⟨0, false, false, false, false, false, 0, 0, ([] : List GQuestion), ([] : List GRR), ([] : List GRR), ([] : List GRR)⟩ : GMessage), z19.2)
    else
      (m_ref04_Number p0 4 2).bind fun (z27 : Int × Int × Int) =>
      (m_ref04_Number p0 6 2).bind fun (z32 : Int × Int × Int) =>
      (m_ref04_Number p0 8 2).bind fun (z37 : Int × Int × Int) =>
      (m_ref04_Number p0 10 2).bind fun (z42 : Int × Int × Int) =>
      (loop (fun s => m_ref06_Read_s2 z27.1 p0 s.1 s.2.1 s.2.2) (z19.1.fQuestions, 12, 0)).bind fun e => Sum.elim (fun e => m_ref06_Read_j1 p0 z32.1 z37.1 z42.1 z19.1 e.1 e.2) (fun x => some x) e
theorem c_ref06_Read {w0 : World} {M : Nat → Prop} {H : List (Nat × Nat × Obj)} {R : List (Nat × Row)} {φ : World → Prop} (p0 : ByteArray) (r : GMessage × Int) (hm : m_ref06_Read p0 = some r) :
    Cn Try.prog 44 #[.string p0] ⟨w0, M, H, R, φ⟩ (fun x : Option Addr × Nat × Option Addr × Nat × Option Addr × Nat × Option Addr × Nat => .tuple #[.agg #[.int .u16 r.1.fID, .bool r.1.fResponse, .bool r.1.fAuthoritative, .bool r.1.fTruncated, .bool r.1.fDesired, .bool r.1.fAvailable, .int .i64 r.1.fOpcode, .int .i64 r.1.fCode, .slice x.1 r.1.fQuestions.length x.2.1, .slice x.2.2.1 r.1.fAnswers.length x.2.2.2.1, .slice x.2.2.2.2.1 r.1.fAuthorities.length x.2.2.2.2.2.1, .slice x.2.2.2.2.2.2.1 r.1.fExtras.length x.2.2.2.2.2.2.2], .int .i64 r.2]) (fun x => r.1.fQuestions.length ≤ x.2.1 ∧ r.1.fAnswers.length ≤ x.2.2.2.1 ∧ r.1.fAuthorities.length ≤ x.2.2.2.2.2.1 ∧ r.1.fExtras.length ≤ x.2.2.2.2.2.2.2) (fun x => ⟨w0, M, H, R, fun W => φ W ∧ Cl W x.1 (r.1.fQuestions.flatMap GQuestion.enc) ∧ Cl W x.2.2.1 (r.1.fAnswers.flatMap GRR.enc) ∧ Cl W x.2.2.2.2.1 (r.1.fAuthorities.flatMap GRR.enc) ∧ Cl W x.2.2.2.2.2.2.1 (r.1.fExtras.flatMap GRR.enc)⟩) := by
 unfold m_ref06_Read at hm
 refine cn_intro (fn := Try.f44) (N := 162) Try.func44 rfl Try.ntmps44 rfl <| c_seq <| c_region ?_
 refine g_e rfl (e_alloc 100020 Try.zeroValue62) (fun g1 _ => ?_)
 refine g_v rfl r_assign <| g_nil <| d_then <| c_seq <| c_seq <| c_region <| g_v rfl r_move <| g_v rfl (r_len Try.underlying9 rfl) <| g_v rfl (r_gtr rfl rfl) <| g_nil ?_
 refine d_then ?_
 refine c_cond rfl (fun h2 => ?_) (fun h2 => ?_)
 ·
  replace hm := ite_t hm (of_decide_eq_true h2)
  refine c_seq <| c_region <| g_v rfl (r_build _ rfl (bld62_16)) <| g_storeL (tag := 100020) rfl rfl rfl rfl Try.sizeOf62 rfl rfl <| g_v rfl r_assign <| g_nil <| d_then <| c_ret <| d_ret_then ?_
  replace hm := Option.some.inj hm
  subst hm
  refine d_retC (none, 0, none, 0, none, 0, none, 0) Try.results44 ?_ ⟨(Nat.le_refl 0), (Nat.le_refl 0), (Nat.le_refl 0), (Nat.le_refl 0)⟩ (fun W h => ok_pre (H1 := [_]) (R1 := []) h (fun W hφ => ⟨hφ, (fun W _ => Cl.nil _ _) W hφ, (fun W _ => Cl.nil _ _) W hφ, (fun W _ => Cl.nil _ _) W hφ, (fun W _ => Cl.nil _ _) W hφ⟩)) (.inr rfl)
  refine res_agg (tag := 100020) rfl rfl Try.isAgg62 Try.sizeOf62 <| res_tmp <| res_nil ?_
  exact rfl
 ·
  replace hm := ite_f hm (of_decide_eq_false h2)
  refine c_skip <| d_then <| c_seq <| c_region <| g_v rfl r_move ?_
  replace hm := bnd hm
  obtain ⟨⟨x3, x4⟩, hx5, hm⟩ := hm
  refine g_cn ⟨w0, M, _, _, φ⟩ (fun _ h => h) Try.call46 rfl rfl (c_ref06_Head p0 _ hx5) (fun ⟨A6, c7, A9, c10, A12, c13, A15, c16⟩ ⟨hc7, hc10, hc13, hc16⟩ => ?_)
  refine g_sta _ (fun W h => (ok_frontR (t := 2000) (t' := 100370) h rfl)) ?_
  refine g_abs (fun φ18 q18' => ?_)
  have q18 : ∀ W, φ18 W → φ W := fun W h => (q18' W h).1
  have f11 := fun (W : World) (h : φ18 W) => (q18' W h).2.1
  have f14 := fun (W : World) (h : φ18 W) => (q18' W h).2.2.1
  have f17 := fun (W : World) (h : φ18 W) => (q18' W h).2.2.2
  refine g_v rfl r_move <| g_v rfl (r_extract rfl rfl) <| g_v rfl (r_extract rfl rfl) ?_
  refine g_e rfl (e_alloc 100040 Try.zeroValue62) (fun g20 _ => ?_)
  refine g_storeL (tag := 100040) rfl rfl rfl rfl Try.sizeOf62 rfl rfl <| g_v rfl r_assign <| g_nil <| d_then ?_
  refine c_flat [(0, .string p0), (2, .pointer (some ⟨g1, 0, none⟩)), (4, .pointer (some ⟨g20, 0, none⟩)), (5, .int .i64 x4)] ⟨rfl, rfl, rfl, rfl, trivial⟩ (fun u => ?_)
  refine c_sta ⟨w0, M, (100040, g20, .cells #[.int .u16 x3.fID, .bool x3.fResponse, .bool x3.fAuthoritative, .bool x3.fTruncated, .bool x3.fDesired, .bool x3.fAvailable, .int .i64 x3.fOpcode, .int .i64 x3.fCode, .slice A6 x3.fQuestions.length c7, .slice A9 x3.fAnswers.length c10, .slice A12 x3.fAuthorities.length c13, .slice A15 x3.fExtras.length c16] 62 (0, 0)) :: (100020, g1, .cells #[.int .u16 0, .bool false, .bool false, .bool false, .bool false, .bool false, .int .i64 0, .int .i64 0, .slice none 0 0, .slice none 0 0, .slice none 0 0, .slice none 0 0] 62 (0, 0)) :: H, (100370, ⟨.slice A6 x3.fQuestions.length c7, 74, 3, x3.fQuestions.length, x3.fQuestions.flatMap GQuestion.enc⟩) :: R, φ18⟩ (fun _ h => h) <| c_seq <| c_seq <| c_region <| g_v rfl r_move <| g_v rfl (r_neq rfl rfl) <| g_nil <| d_then ?_
  refine c_cond rfl (fun h21 => ?_) (fun h21 => ?_)
  ·
   replace hm := ite_t hm (of_decide_eq_true h21)
   refine c_seq <| c_region <| g_v rfl (r_build _ rfl (bld62_16)) <| g_v rfl r_move <| g_storeL (tag := 100020) rfl rfl rfl rfl Try.sizeOf62 rfl rfl <| g_v rfl r_assign <| g_nil <| d_then <| c_ret <| d_ret_then ?_
   replace hm := Option.some.inj hm
   subst hm
   refine d_retC (none, 0, none, 0, none, 0, none, 0) Try.results44 ?_ ⟨(Nat.le_refl 0), (Nat.le_refl 0), (Nat.le_refl 0), (Nat.le_refl 0)⟩ (fun W h => ok_pre (H1 := [_, _]) (R1 := [_]) h (fun W hφ => ⟨(q18 _ hφ), (fun W _ => Cl.nil _ _) W hφ, (fun W _ => Cl.nil _ _) W hφ, (fun W _ => Cl.nil _ _) W hφ, (fun W _ => Cl.nil _ _) W hφ⟩)) (.inr rfl)
   refine res_agg (tag := 100020) rfl rfl Try.isAgg62 Try.sizeOf62 <| res_tmp <| res_nil ?_
   exact rfl
  ·
   replace hm := ite_f hm (of_decide_eq_false h21)
   refine c_skip <| d_then <| c_seq <| c_region ?_
   refine g_e rfl (e_alloc 100060 Try.zeroValue93) (fun g22 _ => ?_)
   refine g_nil <| d_then <| c_seq <| c_seq <| c_region <| g_v rfl r_assign <| g_nil <| d_then <| c_block <| c_rounds 64 ?_
   refine c_seq <| c_seq <| c_region <| g_v rfl r_move <| g_v rfl (r_lss rfl rfl) <| g_nil <| d_then <| c_cond1 rfl (by decide) <| c_skip <| d_then ?_
   refine c_seq <| c_block <| c_seq <| c_region <| g_v rfl r_move <| g_v rfl r_move <| g_v rfl (r_mul rfl rfl (show IntKind.i64.wrap (2 * 0) = 0 by decide)) <| g_v rfl (r_add rfl rfl (show IntKind.i64.wrap (4 + 0) = 4 by decide)) ?_
   replace hm := bnd hm
   obtain ⟨⟨x23, x24, x25⟩, hx26, hm⟩ := hm
   refine g_cn ⟨w0, M, _, _, φ18⟩ (fun _ h => h) Try.call64 rfl rfl (c_ref04_Number p0 4 2 _ hx26) (fun _ _ => ?_)
   refine g_v rfl r_move <| g_v rfl (r_extract rfl rfl) <| g_v rfl (r_extract rfl rfl) <| g_v rfl (r_extract rfl rfl) <| g_v rfl r_assign <| g_v rfl r_assign <| g_v rfl r_assign <| g_nil <| d_then ?_
   refine c_flat [(0, .string p0), (2, .pointer (some ⟨g1, 0, none⟩)), (4, .pointer (some ⟨g20, 0, none⟩)), (6, .pointer (some ⟨g22, 0, none⟩)), (7, .int .i64 0), (8, .int .i64 x23)] ⟨rfl, rfl, rfl, rfl, rfl, rfl, trivial⟩ (fun u => ?_)
   refine c_sta ⟨w0, M, (100060, g22, .cells #[.int .i64 0, .int .i64 0, .int .i64 0, .int .i64 0] 93 (0, 0)) :: (100040, g20, .cells #[.int .u16 x3.fID, .bool x3.fResponse, .bool x3.fAuthoritative, .bool x3.fTruncated, .bool x3.fDesired, .bool x3.fAvailable, .int .i64 x3.fOpcode, .int .i64 x3.fCode, .slice A6 x3.fQuestions.length c7, .slice A9 x3.fAnswers.length c10, .slice A12 x3.fAuthorities.length c13, .slice A15 x3.fExtras.length c16] 62 (0, 0)) :: (100020, g1, .cells #[.int .u16 0, .bool false, .bool false, .bool false, .bool false, .bool false, .int .i64 0, .int .i64 0, .slice none 0 0, .slice none 0 0, .slice none 0 0, .slice none 0 0] 62 (0, 0)) :: H, (100370, ⟨.slice A6 x3.fQuestions.length c7, 74, 3, x3.fQuestions.length, x3.fQuestions.flatMap GQuestion.enc⟩) :: R, φ18⟩ (fun _ h => h) <| c_region <| g_v rfl r_move <| g_v rfl r_move <| g_v rfl (r_elemH (n := 0) Try.underlying93 Try.sizeOf3 rfl rfl (by decide) (by decide) rfl) <| g_storeL (tag := 100060) rfl rfl rfl rfl Try.sizeOf3 rfl rfl <| g_nil <| d_normal_block <| d_then <| c_region ?_
   refine g_v rfl r_move <| g_v rfl (r_add rfl rfl (show IntKind.i64.wrap (0 + 1) = 1 by decide)) <| g_v rfl r_assign <| g_nil <| d_rounds ?_
   refine c_flat [(0, .string p0), (2, .pointer (some ⟨g1, 0, none⟩)), (4, .pointer (some ⟨g20, 0, none⟩)), (6, .pointer (some ⟨g22, 0, none⟩)), (7, .int .i64 1)] ⟨rfl, rfl, rfl, rfl, rfl, trivial⟩ (fun u => ?_)
   refine c_sta ⟨w0, M, (100060, g22, .cells #[.int .i64 x23, .int .i64 0, .int .i64 0, .int .i64 0] 93 (0, 0)) :: (100040, g20, .cells #[.int .u16 x3.fID, .bool x3.fResponse, .bool x3.fAuthoritative, .bool x3.fTruncated, .bool x3.fDesired, .bool x3.fAvailable, .int .i64 x3.fOpcode, .int .i64 x3.fCode, .slice A6 x3.fQuestions.length c7, .slice A9 x3.fAnswers.length c10, .slice A12 x3.fAuthorities.length c13, .slice A15 x3.fExtras.length c16] 62 (0, 0)) :: (100020, g1, .cells #[.int .u16 0, .bool false, .bool false, .bool false, .bool false, .bool false, .int .i64 0, .int .i64 0, .slice none 0 0, .slice none 0 0, .slice none 0 0, .slice none 0 0] 62 (0, 0)) :: H, (100370, ⟨.slice A6 x3.fQuestions.length c7, 74, 3, x3.fQuestions.length, x3.fQuestions.flatMap GQuestion.enc⟩) :: R, φ18⟩ (fun _ h => h) <| c_seq <| c_seq <| c_region <| g_v rfl r_move <| g_v rfl (r_lss rfl rfl) <| g_nil <| d_then <| c_cond1 rfl (by decide) <| c_skip ?_
   refine d_then <| c_seq <| c_block <| c_seq <| c_region <| g_v rfl r_move <| g_v rfl r_move <| g_v rfl (r_mul rfl rfl (show IntKind.i64.wrap (2 * 1) = 2 by decide)) <| g_v rfl (r_add rfl rfl (show IntKind.i64.wrap (4 + 2) = 6 by decide)) ?_
   replace hm := bnd hm
   obtain ⟨⟨x28, x29, x30⟩, hx31, hm⟩ := hm
   refine g_cn ⟨w0, M, _, _, φ18⟩ (fun _ h => h) Try.call64 rfl rfl (c_ref04_Number p0 6 2 _ hx31) (fun _ _ => ?_)
   refine g_v rfl r_move <| g_v rfl (r_extract rfl rfl) <| g_v rfl (r_extract rfl rfl) <| g_v rfl (r_extract rfl rfl) <| g_v rfl r_assign <| g_v rfl r_assign <| g_v rfl r_assign <| g_nil <| d_then ?_
   refine c_flat [(0, .string p0), (2, .pointer (some ⟨g1, 0, none⟩)), (4, .pointer (some ⟨g20, 0, none⟩)), (6, .pointer (some ⟨g22, 0, none⟩)), (7, .int .i64 1), (8, .int .i64 x28)] ⟨rfl, rfl, rfl, rfl, rfl, rfl, trivial⟩ (fun u => ?_)
   refine c_region <| g_v rfl r_move <| g_v rfl r_move <| g_v rfl (r_elemH (n := 1) Try.underlying93 Try.sizeOf3 rfl rfl (by decide) (by decide) rfl) <| g_storeL (tag := 100060) rfl rfl rfl rfl Try.sizeOf3 rfl rfl <| g_nil <| d_normal_block <| d_then <| c_region <| g_v rfl r_move ?_
   refine g_v rfl (r_add rfl rfl (show IntKind.i64.wrap (1 + 1) = 2 by decide)) <| g_v rfl r_assign <| g_nil <| d_rounds ?_
   refine c_flat [(0, .string p0), (2, .pointer (some ⟨g1, 0, none⟩)), (4, .pointer (some ⟨g20, 0, none⟩)), (6, .pointer (some ⟨g22, 0, none⟩)), (7, .int .i64 2)] ⟨rfl, rfl, rfl, rfl, rfl, trivial⟩ (fun u => ?_)
   refine c_sta ⟨w0, M, (100060, g22, .cells #[.int .i64 x23, .int .i64 x28, .int .i64 0, .int .i64 0] 93 (0, 0)) :: (100040, g20, .cells #[.int .u16 x3.fID, .bool x3.fResponse, .bool x3.fAuthoritative, .bool x3.fTruncated, .bool x3.fDesired, .bool x3.fAvailable, .int .i64 x3.fOpcode, .int .i64 x3.fCode, .slice A6 x3.fQuestions.length c7, .slice A9 x3.fAnswers.length c10, .slice A12 x3.fAuthorities.length c13, .slice A15 x3.fExtras.length c16] 62 (0, 0)) :: (100020, g1, .cells #[.int .u16 0, .bool false, .bool false, .bool false, .bool false, .bool false, .int .i64 0, .int .i64 0, .slice none 0 0, .slice none 0 0, .slice none 0 0, .slice none 0 0] 62 (0, 0)) :: H, (100370, ⟨.slice A6 x3.fQuestions.length c7, 74, 3, x3.fQuestions.length, x3.fQuestions.flatMap GQuestion.enc⟩) :: R, φ18⟩ (fun _ h => h) <| c_seq <| c_seq <| c_region <| g_v rfl r_move <| g_v rfl (r_lss rfl rfl) <| g_nil <| d_then <| c_cond1 rfl (by decide) <| c_skip ?_
   refine d_then <| c_seq <| c_block <| c_seq <| c_region <| g_v rfl r_move <| g_v rfl r_move <| g_v rfl (r_mul rfl rfl (show IntKind.i64.wrap (2 * 2) = 4 by decide)) <| g_v rfl (r_add rfl rfl (show IntKind.i64.wrap (4 + 4) = 8 by decide)) ?_
   replace hm := bnd hm
   obtain ⟨⟨x33, x34, x35⟩, hx36, hm⟩ := hm
   refine g_cn ⟨w0, M, _, _, φ18⟩ (fun _ h => h) Try.call64 rfl rfl (c_ref04_Number p0 8 2 _ hx36) (fun _ _ => ?_)
   refine g_v rfl r_move <| g_v rfl (r_extract rfl rfl) <| g_v rfl (r_extract rfl rfl) <| g_v rfl (r_extract rfl rfl) <| g_v rfl r_assign <| g_v rfl r_assign <| g_v rfl r_assign <| g_nil <| d_then ?_
   refine c_flat [(0, .string p0), (2, .pointer (some ⟨g1, 0, none⟩)), (4, .pointer (some ⟨g20, 0, none⟩)), (6, .pointer (some ⟨g22, 0, none⟩)), (7, .int .i64 2), (8, .int .i64 x33)] ⟨rfl, rfl, rfl, rfl, rfl, rfl, trivial⟩ (fun u => ?_)
   refine c_region <| g_v rfl r_move <| g_v rfl r_move <| g_v rfl (r_elemH (n := 2) Try.underlying93 Try.sizeOf3 rfl rfl (by decide) (by decide) rfl) <| g_storeL (tag := 100060) rfl rfl rfl rfl Try.sizeOf3 rfl rfl <| g_nil <| d_normal_block <| d_then <| c_region <| g_v rfl r_move ?_
   refine g_v rfl (r_add rfl rfl (show IntKind.i64.wrap (2 + 1) = 3 by decide)) <| g_v rfl r_assign <| g_nil <| d_rounds ?_
   refine c_flat [(0, .string p0), (2, .pointer (some ⟨g1, 0, none⟩)), (4, .pointer (some ⟨g20, 0, none⟩)), (6, .pointer (some ⟨g22, 0, none⟩)), (7, .int .i64 3)] ⟨rfl, rfl, rfl, rfl, rfl, trivial⟩ (fun u => ?_)
   refine c_sta ⟨w0, M, (100060, g22, .cells #[.int .i64 x23, .int .i64 x28, .int .i64 x33, .int .i64 0] 93 (0, 0)) :: (100040, g20, .cells #[.int .u16 x3.fID, .bool x3.fResponse, .bool x3.fAuthoritative, .bool x3.fTruncated, .bool x3.fDesired, .bool x3.fAvailable, .int .i64 x3.fOpcode, .int .i64 x3.fCode, .slice A6 x3.fQuestions.length c7, .slice A9 x3.fAnswers.length c10, .slice A12 x3.fAuthorities.length c13, .slice A15 x3.fExtras.length c16] 62 (0, 0)) :: (100020, g1, .cells #[.int .u16 0, .bool false, .bool false, .bool false, .bool false, .bool false, .int .i64 0, .int .i64 0, .slice none 0 0, .slice none 0 0, .slice none 0 0, .slice none 0 0] 62 (0, 0)) :: H, (100370, ⟨.slice A6 x3.fQuestions.length c7, 74, 3, x3.fQuestions.length, x3.fQuestions.flatMap GQuestion.enc⟩) :: R, φ18⟩ (fun _ h => h) <| c_seq <| c_seq <| c_region <| g_v rfl r_move <| g_v rfl (r_lss rfl rfl) <| g_nil <| d_then <| c_cond1 rfl (by decide) <| c_skip ?_
   refine d_then <| c_seq <| c_block <| c_seq <| c_region <| g_v rfl r_move <| g_v rfl r_move <| g_v rfl (r_mul rfl rfl (show IntKind.i64.wrap (2 * 3) = 6 by decide)) <| g_v rfl (r_add rfl rfl (show IntKind.i64.wrap (4 + 6) = 10 by decide)) ?_
   replace hm := bnd hm
   obtain ⟨⟨x38, x39, x40⟩, hx41, hm⟩ := hm
   refine g_cn ⟨w0, M, _, _, φ18⟩ (fun _ h => h) Try.call64 rfl rfl (c_ref04_Number p0 10 2 _ hx41) (fun _ _ => ?_)
   refine g_v rfl r_move <| g_v rfl (r_extract rfl rfl) <| g_v rfl (r_extract rfl rfl) <| g_v rfl (r_extract rfl rfl) <| g_v rfl r_assign <| g_v rfl r_assign <| g_v rfl r_assign <| g_nil <| d_then ?_
   refine c_flat [(0, .string p0), (2, .pointer (some ⟨g1, 0, none⟩)), (4, .pointer (some ⟨g20, 0, none⟩)), (6, .pointer (some ⟨g22, 0, none⟩)), (7, .int .i64 3), (8, .int .i64 x38)] ⟨rfl, rfl, rfl, rfl, rfl, rfl, trivial⟩ (fun u => ?_)
   refine c_region <| g_v rfl r_move <| g_v rfl r_move <| g_v rfl (r_elemH (n := 3) Try.underlying93 Try.sizeOf3 rfl rfl (by decide) (by decide) rfl) <| g_storeL (tag := 100060) rfl rfl rfl rfl Try.sizeOf3 rfl rfl <| g_nil <| d_normal_block <| d_then <| c_region <| g_v rfl r_move ?_
   refine g_v rfl (r_add rfl rfl (show IntKind.i64.wrap (3 + 1) = 4 by decide)) <| g_v rfl r_assign <| g_nil <| d_rounds ?_
   refine c_flat [(0, .string p0), (2, .pointer (some ⟨g1, 0, none⟩)), (4, .pointer (some ⟨g20, 0, none⟩)), (6, .pointer (some ⟨g22, 0, none⟩)), (7, .int .i64 4)] ⟨rfl, rfl, rfl, rfl, rfl, trivial⟩ (fun u => ?_)
   refine c_sta ⟨w0, M, (100060, g22, .cells #[.int .i64 x23, .int .i64 x28, .int .i64 x33, .int .i64 x38] 93 (0, 0)) :: (100040, g20, .cells #[.int .u16 x3.fID, .bool x3.fResponse, .bool x3.fAuthoritative, .bool x3.fTruncated, .bool x3.fDesired, .bool x3.fAvailable, .int .i64 x3.fOpcode, .int .i64 x3.fCode, .slice A6 x3.fQuestions.length c7, .slice A9 x3.fAnswers.length c10, .slice A12 x3.fAuthorities.length c13, .slice A15 x3.fExtras.length c16] 62 (0, 0)) :: (100020, g1, .cells #[.int .u16 0, .bool false, .bool false, .bool false, .bool false, .bool false, .int .i64 0, .int .i64 0, .slice none 0 0, .slice none 0 0, .slice none 0 0, .slice none 0 0] 62 (0, 0)) :: H, (100370, ⟨.slice A6 x3.fQuestions.length c7, 74, 3, x3.fQuestions.length, x3.fQuestions.flatMap GQuestion.enc⟩) :: R, φ18⟩ (fun _ h => h) <| c_seq <| c_seq <| c_region <| g_v rfl r_move <| g_v rfl (r_lss rfl rfl) <| g_nil <| d_then <| c_cond0 rfl (by decide) <| c_exit ?_
   refine d_exit_then <| d_exit_then <| d_exit_block <| d_then <| c_seq <| c_region <| g_v rfl r_assign <| g_nil <| d_then <| c_seq ?_
   refine c_seq <| c_region <| g_v rfl r_assign <| g_nil <| d_then ?_
   refine c_cut (ι := (List GQuestion) × Int × Option Addr × Nat) [0, 2, 4, 6, 11] (fun ⟨l105, i108, A106, c107⟩ => [(11, .int .i64 i108)]) (fun ⟨l105, i108, A106, c107⟩ => ⟨w0, M, (100060, g22, .cells #[.int .i64 x23, .int .i64 x28, .int .i64 x33, .int .i64 x38] 93 (0, 0)) :: (100040, g20, .cells #[.int .u16 x3.fID, .bool x3.fResponse, .bool x3.fAuthoritative, .bool x3.fTruncated, .bool x3.fDesired, .bool x3.fAvailable, .int .i64 x3.fOpcode, .int .i64 x3.fCode, .slice A106 l105.length c107, .slice A9 x3.fAnswers.length c10, .slice A12 x3.fAuthorities.length c13, .slice A15 x3.fExtras.length c16] 62 (0, 0)) :: (100020, g1, .cells #[.int .u16 0, .bool false, .bool false, .bool false, .bool false, .bool false, .int .i64 0, .int .i64 0, .slice none 0 0, .slice none 0 0, .slice none 0 0, .slice none 0 0] 62 (0, 0)) :: H, (100370, ⟨.slice A106 l105.length c107, 74, 3, l105.length, l105.flatMap GQuestion.enc⟩) :: R, φ18⟩) (fun ⟨l105, i108, A106, c107⟩ => m_ref06_Read_j1 p0 x28 x33 x38 x3 l105 i108 = some r ∧ l105.length ≤ c107) ?_ (fun ⟨l105, i108, A106, c107⟩ u ⟨hm, hc107⟩ => ?_)
   ·
    refine c_block ?_
    replace hm := bnd hm
    obtain ⟨out2, hl2, hr2⟩ := hm
    obtain ⟨n206', hl2⟩ := loop_lp hl2
    refine c_loopU (ι := Nat × (List GQuestion) × Int × Int × Option Addr × Nat) [0, 2, 4, 6, 11, 12] (fun ⟨n206, l173, i176, i177, A174, c175⟩ => [(11, .int .i64 i176), (12, .int .i64 i177)]) (fun ⟨n206, l173, i176, i177, A174, c175⟩ => ⟨w0, M, (100060, g22, .cells #[.int .i64 x23, .int .i64 x28, .int .i64 x33, .int .i64 x38] 93 (0, 0)) :: (100040, g20, .cells #[.int .u16 x3.fID, .bool x3.fResponse, .bool x3.fAuthoritative, .bool x3.fTruncated, .bool x3.fDesired, .bool x3.fAvailable, .int .i64 x3.fOpcode, .int .i64 x3.fCode, .slice A174 l173.length c175, .slice A9 x3.fAnswers.length c10, .slice A12 x3.fAuthorities.length c13, .slice A15 x3.fExtras.length c16] 62 (0, 0)) :: (100020, g1, .cells #[.int .u16 0, .bool false, .bool false, .bool false, .bool false, .bool false, .int .i64 0, .int .i64 0, .slice none 0 0, .slice none 0 0, .slice none 0 0, .slice none 0 0] 62 (0, 0)) :: H, (100370, ⟨.slice A174 l173.length c175, 74, 3, l173.length, l173.flatMap GQuestion.enc⟩) :: R, φ18⟩) (fun ⟨n206, l173, i176, i177, A174, c175⟩ => Lp (fun s => m_ref06_Read_s2 x23 p0 s.1 s.2.1 s.2.2) n206 (l173, i176, i177) out2 ∧ l173.length ≤ c175) (fun ⟨n206, l173, i176, i177, A174, c175⟩ => n206) (n206', x3.fQuestions, 12, 0, A6, c7) ⟨hl2, hc7⟩ ⟨rfl, rfl, rfl, rfl, rfl, rfl, trivial⟩ (fun W h => h.phi (fun W hφ => hφ)) (fun ⟨n206, l173, i176, i177, A174, c175⟩ u ⟨hlp, hc175⟩ => ?_)
    obtain ⟨o2, hm, hnx2⟩ := lp_step hlp
    clear hlp
    replace hm : m_ref06_Read_s2 x23 p0 l173 i176 i177 = some o2 := hm
    unfold m_ref06_Read_s2 at hm
    refine c_flat [(0, .string p0), (2, .pointer (some ⟨g1, 0, none⟩)), (4, .pointer (some ⟨g20, 0, none⟩)), (6, .pointer (some ⟨g22, 0, none⟩)), (11, .int .i64 i176), (12, .int .i64 i177)] ⟨rfl, rfl, rfl, rfl, rfl, rfl, trivial⟩ (fun u => ?_)
    refine c_sta ⟨w0, M, (100060, g22, .cells #[.int .i64 x23, .int .i64 x28, .int .i64 x33, .int .i64 x38] 93 (0, 0)) :: (100040, g20, .cells #[.int .u16 x3.fID, .bool x3.fResponse, .bool x3.fAuthoritative, .bool x3.fTruncated, .bool x3.fDesired, .bool x3.fAvailable, .int .i64 x3.fOpcode, .int .i64 x3.fCode, .slice A174 l173.length c175, .slice A9 x3.fAnswers.length c10, .slice A12 x3.fAuthorities.length c13, .slice A15 x3.fExtras.length c16] 62 (0, 0)) :: (100020, g1, .cells #[.int .u16 0, .bool false, .bool false, .bool false, .bool false, .bool false, .int .i64 0, .int .i64 0, .slice none 0 0, .slice none 0 0, .slice none 0 0, .slice none 0 0] 62 (0, 0)) :: H, (100370, ⟨.slice A174 l173.length c175, 74, 3, l173.length, l173.flatMap GQuestion.enc⟩) :: R, φ18⟩ (fun _ h => h) <| c_seq <| c_seq <| c_region <| g_v rfl r_move <| g_v rfl (r_elemH (n := 0) Try.underlying93 Try.sizeOf3 rfl rfl (by decide) (by decide) rfl) <| g_v rfl (r_load (tag := 100060) rfl rfl rfl Try.isAgg3) <| g_v rfl (r_lss rfl rfl) <| g_nil <| d_then ?_
    refine c_cond rfl (fun h207 => ?_) (fun h207 => ?_)
    ·
     replace hm := ite_t hm (of_decide_eq_true h207)
     refine c_skip <| d_then <| c_seq <| c_block <| c_seq <| c_region <| g_v rfl r_move <| g_v rfl r_move ?_
     replace hm := bnd hm
     obtain ⟨⟨x208, x209, x210⟩, hx211, hm⟩ := hm
     refine g_cn ⟨w0, M, _, _, φ18⟩ (fun _ h => h) Try.call63 rfl rfl (c_ref04_Name p0 i176 _ hx211) (fun _ _ => ?_)
     refine g_v rfl r_move <| g_v rfl (r_extract rfl rfl) <| g_v rfl (r_extract rfl rfl) <| g_v rfl (r_extract rfl rfl) <| g_v rfl r_assign <| g_v rfl r_assign <| g_v rfl r_assign <| g_nil <| d_then ?_
     refine c_flat [(0, .string p0), (2, .pointer (some ⟨g1, 0, none⟩)), (4, .pointer (some ⟨g20, 0, none⟩)), (6, .pointer (some ⟨g22, 0, none⟩)), (12, .int .i64 i177), (13, .string x208), (14, .int .i64 x209), (15, .int .i64 x210)] ⟨rfl, rfl, rfl, rfl, rfl, rfl, rfl, rfl, trivial⟩ (fun u => ?_)
     refine c_seq <| c_seq <| c_region <| g_v rfl r_move <| g_v rfl (r_neq rfl rfl) <| g_nil <| d_then ?_
     refine c_cond rfl (fun h213 => ?_) (fun h213 => ?_)
     ·
      replace hm := ite_t hm (of_decide_eq_true h213)
      refine c_seq <| c_region <| g_v rfl (r_build _ rfl (bld62_16)) <| g_v rfl r_move <| g_storeL (tag := 100020) rfl rfl rfl rfl Try.sizeOf62 rfl rfl <| g_v rfl r_assign <| g_nil <| d_then <| c_ret <| d_ret_then ?_
      refine d_ret_block <| d_ret_then <| d_ret_then <| d_ret_block <| d_ret_then <| d_ret_then ?_
      replace hm := nx_out (C := (fun e => Sum.elim (fun e => m_ref06_Read_j1 p0 x28 x33 x38 x3 e.1 e.2) (fun x => some x) e = some r)) hm hnx2 hr2
      replace hm : some ((⟨0, false, false, false, false, false, 0, 0, ([] : List GQuestion), ([] : List GRR), ([] : List GRR), ([] : List GRR)⟩ : GMessage), x210) = some r := hm
      replace hm := Option.some.inj hm
      subst hm
      refine d_retC (none, 0, none, 0, none, 0, none, 0) Try.results44 ?_ ⟨(Nat.le_refl 0), (Nat.le_refl 0), (Nat.le_refl 0), (Nat.le_refl 0)⟩ (fun W h => ok_pre (H1 := [_, _, _]) (R1 := [_]) h (fun W hφ => ⟨(q18 _ hφ), (fun W _ => Cl.nil _ _) W hφ, (fun W _ => Cl.nil _ _) W hφ, (fun W _ => Cl.nil _ _) W hφ, (fun W _ => Cl.nil _ _) W hφ⟩)) (.inr rfl)
      refine res_agg (tag := 100020) rfl rfl Try.isAgg62 Try.sizeOf62 <| res_tmp <| res_nil ?_
      exact rfl
     ·
      replace hm := ite_f hm (of_decide_eq_false h213)
      refine c_skip <| d_then <| c_seq <| c_region <| g_v rfl r_move <| g_v rfl r_move ?_
      replace hm := bnd hm
      obtain ⟨⟨x214, x215, x216⟩, hx217, hm⟩ := hm
      refine g_cn ⟨w0, M, _, _, φ18⟩ (fun _ h => h) Try.call64 rfl rfl (c_ref04_Number p0 x209 2 _ hx217) (fun _ _ => ?_)
      refine g_v rfl r_move <| g_v rfl (r_extract rfl rfl) <| g_v rfl (r_extract rfl rfl) <| g_v rfl (r_extract rfl rfl) <| g_v rfl r_assign <| g_v rfl r_assign <| g_v rfl r_assign <| g_nil <| d_then ?_
      refine c_flat [(0, .string p0), (2, .pointer (some ⟨g1, 0, none⟩)), (4, .pointer (some ⟨g20, 0, none⟩)), (6, .pointer (some ⟨g22, 0, none⟩)), (12, .int .i64 i177), (13, .string x208), (16, .int .i64 x214), (17, .int .i64 x215), (18, .int .i64 x216)] ⟨rfl, rfl, rfl, rfl, rfl, rfl, rfl, rfl, rfl, trivial⟩ (fun u => ?_)
      refine c_seq <| c_seq <| c_region <| g_v rfl r_move <| g_v rfl (r_neq rfl rfl) <| g_nil <| d_then ?_
      refine c_cond rfl (fun h219 => ?_) (fun h219 => ?_)
      ·
       replace hm := ite_t hm (of_decide_eq_true h219)
       refine c_seq <| c_region <| g_v rfl (r_build _ rfl (bld62_16)) <| g_v rfl r_move <| g_storeL (tag := 100020) rfl rfl rfl rfl Try.sizeOf62 rfl rfl <| g_v rfl r_assign <| g_nil <| d_then <| c_ret <| d_ret_then ?_
       refine d_ret_block <| d_ret_then <| d_ret_then <| d_ret_block <| d_ret_then <| d_ret_then ?_
       replace hm := nx_out (C := (fun e => Sum.elim (fun e => m_ref06_Read_j1 p0 x28 x33 x38 x3 e.1 e.2) (fun x => some x) e = some r)) hm hnx2 hr2
       replace hm : some ((⟨0, false, false, false, false, false, 0, 0, ([] : List GQuestion), ([] : List GRR), ([] : List GRR), ([] : List GRR)⟩ : GMessage), x216) = some r := hm
       replace hm := Option.some.inj hm
       subst hm
       refine d_retC (none, 0, none, 0, none, 0, none, 0) Try.results44 ?_ ⟨(Nat.le_refl 0), (Nat.le_refl 0), (Nat.le_refl 0), (Nat.le_refl 0)⟩ (fun W h => ok_pre (H1 := [_, _, _]) (R1 := [_]) h (fun W hφ => ⟨(q18 _ hφ), (fun W _ => Cl.nil _ _) W hφ, (fun W _ => Cl.nil _ _) W hφ, (fun W _ => Cl.nil _ _) W hφ, (fun W _ => Cl.nil _ _) W hφ⟩)) (.inr rfl)
       refine res_agg (tag := 100020) rfl rfl Try.isAgg62 Try.sizeOf62 <| res_tmp <| res_nil ?_
       exact rfl
      ·
       replace hm := ite_f hm (of_decide_eq_false h219)
       refine c_skip <| d_then <| c_seq <| c_region <| g_v rfl r_move <| g_v rfl r_move ?_
       replace hm := bnd hm
       obtain ⟨⟨x220, x221, x222⟩, hx223, hm⟩ := hm
       refine g_cn ⟨w0, M, _, _, φ18⟩ (fun _ h => h) Try.call64 rfl rfl (c_ref04_Number p0 x215 2 _ hx223) (fun _ _ => ?_)
       refine g_v rfl r_move <| g_v rfl (r_extract rfl rfl) <| g_v rfl (r_extract rfl rfl) <| g_v rfl (r_extract rfl rfl) <| g_v rfl r_assign <| g_v rfl r_assign <| g_v rfl r_assign <| g_nil <| d_then ?_
       refine c_flat [(0, .string p0), (2, .pointer (some ⟨g1, 0, none⟩)), (4, .pointer (some ⟨g20, 0, none⟩)), (6, .pointer (some ⟨g22, 0, none⟩)), (12, .int .i64 i177), (13, .string x208), (16, .int .i64 x214), (19, .int .i64 x220), (20, .int .i64 x221), (21, .int .i64 x222)] ⟨rfl, rfl, rfl, rfl, rfl, rfl, rfl, rfl, rfl, rfl, trivial⟩ (fun u => ?_)
       refine c_seq <| c_seq <| c_region <| g_v rfl r_move <| g_v rfl (r_neq rfl rfl) <| g_nil <| d_then ?_
       refine c_cond rfl (fun h225 => ?_) (fun h225 => ?_)
       ·
        replace hm := ite_t hm (of_decide_eq_true h225)
        refine c_seq <| c_region <| g_v rfl (r_build _ rfl (bld62_16)) <| g_v rfl r_move <| g_storeL (tag := 100020) rfl rfl rfl rfl Try.sizeOf62 rfl rfl <| g_v rfl r_assign <| g_nil <| d_then <| c_ret <| d_ret_then ?_
        refine d_ret_block <| d_ret_then <| d_ret_then <| d_ret_block <| d_ret_then <| d_ret_then ?_
        replace hm := nx_out (C := (fun e => Sum.elim (fun e => m_ref06_Read_j1 p0 x28 x33 x38 x3 e.1 e.2) (fun x => some x) e = some r)) hm hnx2 hr2
        replace hm : some ((⟨0, false, false, false, false, false, 0, 0, ([] : List GQuestion), ([] : List GRR), ([] : List GRR), ([] : List GRR)⟩ : GMessage), x222) = some r := hm
        replace hm := Option.some.inj hm
        subst hm
        refine d_retC (none, 0, none, 0, none, 0, none, 0) Try.results44 ?_ ⟨(Nat.le_refl 0), (Nat.le_refl 0), (Nat.le_refl 0), (Nat.le_refl 0)⟩ (fun W h => ok_pre (H1 := [_, _, _]) (R1 := [_]) h (fun W hφ => ⟨(q18 _ hφ), (fun W _ => Cl.nil _ _) W hφ, (fun W _ => Cl.nil _ _) W hφ, (fun W _ => Cl.nil _ _) W hφ, (fun W _ => Cl.nil _ _) W hφ⟩)) (.inr rfl)
        refine res_agg (tag := 100020) rfl rfl Try.isAgg62 Try.sizeOf62 <| res_tmp <| res_nil ?_
        exact rfl
       ·
        replace hm := ite_f hm (of_decide_eq_false h225)
        refine c_skip <| d_then <| c_seq <| c_region <| g_v rfl (r_field (n := 8) Try.underlying62 rfl Try.sizeOf60 rfl rfl) <| g_v rfl (r_load (tag := 100040) rfl rfl rfl Try.isAgg60) <| g_v rfl r_move <| g_v rfl r_move <| g_v rfl (r_conv Try.underlying3 Try.underlying24 rfl rfl) <| g_v rfl r_move ?_
        refine g_v rfl (r_conv Try.underlying3 Try.underlying24 rfl rfl) <| g_v rfl (r_build _ rfl (bld74_0 _ _ _)) ?_
        refine g_e rfl (e_lit (tag := 101070) (l := [(⟨x208, IntKind.u16.wrap x214, IntKind.u16.wrap x220⟩ : GQuestion)]) (enc := GQuestion.enc) (sz := 3) rfl Try.underlying60 (lit74_1 _ _ _) rfl rfl (fun _ => rfl)) (fun g226 _ => ?_)
        replace hm := bnd hm
        obtain ⟨l227, hl227, hm⟩ := hm
        refine g_e rfl (e_appR (enc := GQuestion.enc) (l := l173) (l1 := [(⟨x208, IntKind.u16.wrap x214, IntKind.u16.wrap x220⟩ : GQuestion)]) (l2 := l227) (tag := 100370) Try.underlying60 inf74_19 rfl (by decide) (by decide) (fun _ => rfl) (fun _ => rfl) rfl hc175 rfl rfl (fun W hS => rowCl (tag := 101070) rfl W hS) hl227) (fun ⟨A228, c229⟩ hc229 => ?_)
        refine g_v rfl (r_field (n := 8) Try.underlying62 rfl Try.sizeOf60 rfl rfl) <| g_storeL (tag := 100040) rfl rfl rfl rfl Try.sizeOf60 rfl rfl <| g_nil <| d_then ?_
        refine c_flat [(0, .string p0), (2, .pointer (some ⟨g1, 0, none⟩)), (4, .pointer (some ⟨g20, 0, none⟩)), (6, .pointer (some ⟨g22, 0, none⟩)), (12, .int .i64 i177), (20, .int .i64 x221)] ⟨rfl, rfl, rfl, rfl, rfl, rfl, trivial⟩ (fun u => ?_)
        refine c_sta ⟨w0, M, (100060, g22, .cells #[.int .i64 x23, .int .i64 x28, .int .i64 x33, .int .i64 x38] 93 (0, 0)) :: (100040, g20, .cells #[.int .u16 x3.fID, .bool x3.fResponse, .bool x3.fAuthoritative, .bool x3.fTruncated, .bool x3.fDesired, .bool x3.fAvailable, .int .i64 x3.fOpcode, .int .i64 x3.fCode, .slice A228 l227.length c229, .slice A9 x3.fAnswers.length c10, .slice A12 x3.fAuthorities.length c13, .slice A15 x3.fExtras.length c16] 62 (0, 0)) :: (100020, g1, .cells #[.int .u16 0, .bool false, .bool false, .bool false, .bool false, .bool false, .int .i64 0, .int .i64 0, .slice none 0 0, .slice none 0 0, .slice none 0 0, .slice none 0 0] 62 (0, 0)) :: H, (101070, ⟨.slice (some ⟨g226, 0, none⟩) [(⟨x208, IntKind.u16.wrap x214, IntKind.u16.wrap x220⟩ : GQuestion)].length 1, 74, 3, [(⟨x208, IntKind.u16.wrap x214, IntKind.u16.wrap x220⟩ : GQuestion)].length, [(⟨x208, IntKind.u16.wrap x214, IntKind.u16.wrap x220⟩ : GQuestion)].flatMap GQuestion.enc⟩) :: (100370, ⟨.slice A228 l227.length c229, 74, 3, l227.length, l227.flatMap GQuestion.enc⟩) :: R, φ18⟩ (fun _ h => h) <| c_region <| g_v rfl r_move <| g_v rfl r_assign <| g_nil <| d_normal_block <| d_then <| c_region <| g_v rfl r_move <| g_v rfl (r_add rfl rfl rfl) ?_
        refine g_v rfl r_assign <| g_nil ?_
        obtain ⟨n230, hn230, hlp⟩ := nx_inl hm hnx2
        exact d_round (n230, l227, x221, w64 (i177 + 1), A228, c229) ⟨hlp, hc229⟩ hn230 ⟨rfl, rfl, rfl, rfl, rfl, rfl, trivial⟩ (fun W h => (h.dropR (t := 101070) rfl).phi (fun W hφ => hφ))
    ·
     replace hm := ite_f hm (of_decide_eq_false h207)
     refine c_exit <| d_exit_then <| d_exit_then <| d_exit_block ?_
     replace hm := nx_out (C := (fun e => Sum.elim (fun e => m_ref06_Read_j1 p0 x28 x33 x38 x3 e.1 e.2) (fun x => some x) e = some r)) hm hnx2 hr2
     exact d_round (l173, i176, A174, c175) ⟨hm, hc175⟩ Nat.zero_lt_one ⟨rfl, rfl, rfl, rfl, rfl, trivial⟩ (fun W h => h.phi (fun W hφ => hφ))
   ·
    unfold m_ref06_Read_j1 at hm
    refine d_flat [(0, .string p0), (2, .pointer (some ⟨g1, 0, none⟩)), (4, .pointer (some ⟨g20, 0, none⟩)), (6, .pointer (some ⟨g22, 0, none⟩)), (11, .int .i64 i108)] ⟨rfl, rfl, rfl, rfl, rfl, trivial⟩ (fun u => ?_)
    refine d_sta ⟨w0, M, (100060, g22, .cells #[.int .i64 x23, .int .i64 x28, .int .i64 x33, .int .i64 x38] 93 (0, 0)) :: (100040, g20, .cells #[.int .u16 x3.fID, .bool x3.fResponse, .bool x3.fAuthoritative, .bool x3.fTruncated, .bool x3.fDesired, .bool x3.fAvailable, .int .i64 x3.fOpcode, .int .i64 x3.fCode, .slice A106 l105.length c107, .slice A9 x3.fAnswers.length c10, .slice A12 x3.fAuthorities.length c13, .slice A15 x3.fExtras.length c16] 62 (0, 0)) :: (100020, g1, .cells #[.int .u16 0, .bool false, .bool false, .bool false, .bool false, .bool false, .int .i64 0, .int .i64 0, .slice none 0 0, .slice none 0 0, .slice none 0 0, .slice none 0 0] 62 (0, 0)) :: H, (100370, ⟨.slice A106 l105.length c107, 74, 3, l105.length, l105.flatMap GQuestion.enc⟩) :: R, φ18⟩ (fun _ h => h) <| d_then <| c_seq <| c_region <| g_v rfl r_move <| g_v rfl r_move <| g_v rfl (r_elemH (n := 1) Try.underlying93 Try.sizeOf3 rfl rfl (by decide) (by decide) rfl) <| g_v rfl (r_load (tag := 100060) rfl rfl rfl Try.isAgg3) ?_
    replace hm := bnd hm
    obtain ⟨⟨x109, x110, x111⟩, hx112, hm⟩ := hm
    refine g_cn ⟨w0, M, _, _, φ18⟩ (fun _ h => h) Try.call92 rfl rfl (c_ref06_records p0 i108 x28 _ hx112) (fun ⟨A113, c114⟩ hc114 => ?_)
    refine g_sta _ (fun W h => (ok_frontR (t := 2000) (t' := 101160) h rfl)) <| g_v rfl r_move <| g_v rfl (r_extract rfl rfl) <| g_v rfl (r_extract rfl rfl) <| g_v rfl (r_extract rfl rfl) <| g_v rfl r_assign <| g_v rfl r_assign <| g_v rfl r_assign <| g_nil <| d_then ?_
    refine c_flat [(0, .string p0), (2, .pointer (some ⟨g1, 0, none⟩)), (4, .pointer (some ⟨g20, 0, none⟩)), (6, .pointer (some ⟨g22, 0, none⟩)), (22, .slice A113 x109.length c114), (23, .int .i64 x110), (24, .int .i64 x111)] ⟨rfl, rfl, rfl, rfl, rfl, rfl, rfl, trivial⟩ (fun u => ?_)
    refine c_sta ⟨w0, M, (100060, g22, .cells #[.int .i64 x23, .int .i64 x28, .int .i64 x33, .int .i64 x38] 93 (0, 0)) :: (100040, g20, .cells #[.int .u16 x3.fID, .bool x3.fResponse, .bool x3.fAuthoritative, .bool x3.fTruncated, .bool x3.fDesired, .bool x3.fAvailable, .int .i64 x3.fOpcode, .int .i64 x3.fCode, .slice A106 l105.length c107, .slice A9 x3.fAnswers.length c10, .slice A12 x3.fAuthorities.length c13, .slice A15 x3.fExtras.length c16] 62 (0, 0)) :: (100020, g1, .cells #[.int .u16 0, .bool false, .bool false, .bool false, .bool false, .bool false, .int .i64 0, .int .i64 0, .slice none 0 0, .slice none 0 0, .slice none 0 0, .slice none 0 0] 62 (0, 0)) :: H, (101160, ⟨.slice A113 x109.length c114, 27, 5, x109.length, x109.flatMap GRR.enc⟩) :: (100370, ⟨.slice A106 l105.length c107, 74, 3, l105.length, l105.flatMap GQuestion.enc⟩) :: R, φ18⟩ (fun _ h => h) <| c_seq <| c_seq <| c_region <| g_v rfl r_move <| g_v rfl (r_neq rfl rfl) <| g_nil <| d_then ?_
    refine c_cond rfl (fun h117 => ?_) (fun h117 => ?_)
    ·
     replace hm := ite_t hm (of_decide_eq_true h117)
     refine c_seq <| c_region <| g_v rfl (r_build _ rfl (bld62_16)) <| g_v rfl r_move <| g_storeL (tag := 100020) rfl rfl rfl rfl Try.sizeOf62 rfl rfl <| g_v rfl r_assign <| g_nil <| d_then <| c_ret <| d_ret_then ?_
     replace hm := Option.some.inj hm
     subst hm
     refine d_retC (none, 0, none, 0, none, 0, none, 0) Try.results44 ?_ ⟨(Nat.le_refl 0), (Nat.le_refl 0), (Nat.le_refl 0), (Nat.le_refl 0)⟩ (fun W h => ok_pre (H1 := [_, _, _]) (R1 := [_, _]) h (fun W hφ => ⟨(q18 _ hφ), (fun W _ => Cl.nil _ _) W hφ, (fun W _ => Cl.nil _ _) W hφ, (fun W _ => Cl.nil _ _) W hφ, (fun W _ => Cl.nil _ _) W hφ⟩)) (.inr rfl)
     refine res_agg (tag := 100020) rfl rfl Try.isAgg62 Try.sizeOf62 <| res_tmp <| res_nil ?_
     exact rfl
    ·
     replace hm := ite_f hm (of_decide_eq_false h117)
     refine c_skip <| d_then <| c_seq <| c_region <| g_v rfl r_move <| g_v rfl r_move <| g_v rfl (r_elemH (n := 2) Try.underlying93 Try.sizeOf3 rfl rfl (by decide) (by decide) rfl) <| g_v rfl (r_load (tag := 100060) rfl rfl rfl Try.isAgg3) ?_
     replace hm := bnd hm
     obtain ⟨⟨x118, x119, x120⟩, hx121, hm⟩ := hm
     refine g_cn ⟨w0, M, _, _, φ18⟩ (fun _ h => h) Try.call92 rfl rfl (c_ref06_records p0 x110 x33 _ hx121) (fun ⟨A122, c123⟩ hc123 => ?_)
     refine g_sta _ (fun W h => (ok_frontR (t := 2000) (t' := 101290) h rfl)) <| g_v rfl r_move <| g_v rfl (r_extract rfl rfl) <| g_v rfl (r_extract rfl rfl) <| g_v rfl (r_extract rfl rfl) <| g_v rfl r_assign <| g_v rfl r_assign <| g_v rfl r_assign <| g_nil <| d_then ?_
     refine c_flat [(0, .string p0), (2, .pointer (some ⟨g1, 0, none⟩)), (4, .pointer (some ⟨g20, 0, none⟩)), (6, .pointer (some ⟨g22, 0, none⟩)), (22, .slice A113 x109.length c114), (25, .slice A122 x118.length c123), (26, .int .i64 x119), (27, .int .i64 x120)] ⟨rfl, rfl, rfl, rfl, rfl, rfl, rfl, rfl, trivial⟩ (fun u => ?_)
     refine c_sta ⟨w0, M, (100060, g22, .cells #[.int .i64 x23, .int .i64 x28, .int .i64 x33, .int .i64 x38] 93 (0, 0)) :: (100040, g20, .cells #[.int .u16 x3.fID, .bool x3.fResponse, .bool x3.fAuthoritative, .bool x3.fTruncated, .bool x3.fDesired, .bool x3.fAvailable, .int .i64 x3.fOpcode, .int .i64 x3.fCode, .slice A106 l105.length c107, .slice A9 x3.fAnswers.length c10, .slice A12 x3.fAuthorities.length c13, .slice A15 x3.fExtras.length c16] 62 (0, 0)) :: (100020, g1, .cells #[.int .u16 0, .bool false, .bool false, .bool false, .bool false, .bool false, .int .i64 0, .int .i64 0, .slice none 0 0, .slice none 0 0, .slice none 0 0, .slice none 0 0] 62 (0, 0)) :: H, (101290, ⟨.slice A122 x118.length c123, 27, 5, x118.length, x118.flatMap GRR.enc⟩) :: (101160, ⟨.slice A113 x109.length c114, 27, 5, x109.length, x109.flatMap GRR.enc⟩) :: (100370, ⟨.slice A106 l105.length c107, 74, 3, l105.length, l105.flatMap GQuestion.enc⟩) :: R, φ18⟩ (fun _ h => h) <| c_seq <| c_seq <| c_region <| g_v rfl r_move <| g_v rfl (r_neq rfl rfl) <| g_nil <| d_then ?_
     refine c_cond rfl (fun h126 => ?_) (fun h126 => ?_)
     ·
      replace hm := ite_t hm (of_decide_eq_true h126)
      refine c_seq <| c_region <| g_v rfl (r_build _ rfl (bld62_16)) <| g_v rfl r_move <| g_storeL (tag := 100020) rfl rfl rfl rfl Try.sizeOf62 rfl rfl <| g_v rfl r_assign <| g_nil <| d_then <| c_ret <| d_ret_then ?_
      replace hm := Option.some.inj hm
      subst hm
      refine d_retC (none, 0, none, 0, none, 0, none, 0) Try.results44 ?_ ⟨(Nat.le_refl 0), (Nat.le_refl 0), (Nat.le_refl 0), (Nat.le_refl 0)⟩ (fun W h => ok_pre (H1 := [_, _, _]) (R1 := [_, _, _]) h (fun W hφ => ⟨(q18 _ hφ), (fun W _ => Cl.nil _ _) W hφ, (fun W _ => Cl.nil _ _) W hφ, (fun W _ => Cl.nil _ _) W hφ, (fun W _ => Cl.nil _ _) W hφ⟩)) (.inr rfl)
      refine res_agg (tag := 100020) rfl rfl Try.isAgg62 Try.sizeOf62 <| res_tmp <| res_nil ?_
      exact rfl
     ·
      replace hm := ite_f hm (of_decide_eq_false h126)
      refine c_skip <| d_then <| c_seq <| c_region <| g_v rfl r_move <| g_v rfl r_move <| g_v rfl (r_elemH (n := 3) Try.underlying93 Try.sizeOf3 rfl rfl (by decide) (by decide) rfl) <| g_v rfl (r_load (tag := 100060) rfl rfl rfl Try.isAgg3) ?_
      replace hm := bnd hm
      obtain ⟨⟨x127, x128, x129⟩, hx130, hm⟩ := hm
      refine g_cn ⟨w0, M, _, _, φ18⟩ (fun _ h => h) Try.call92 rfl rfl (c_ref06_records p0 x119 x38 _ hx130) (fun ⟨A131, c132⟩ hc132 => ?_)
      refine g_sta _ (fun W h => (ok_frontR (t := 2000) (t' := 101420) h rfl)) <| g_v rfl r_move <| g_v rfl (r_extract rfl rfl) <| g_v rfl (r_extract rfl rfl) <| g_v rfl (r_extract rfl rfl) <| g_v rfl r_assign <| g_v rfl r_assign <| g_v rfl r_assign <| g_nil <| d_then ?_
      refine c_flat [(0, .string p0), (2, .pointer (some ⟨g1, 0, none⟩)), (4, .pointer (some ⟨g20, 0, none⟩)), (22, .slice A113 x109.length c114), (25, .slice A122 x118.length c123), (28, .slice A131 x127.length c132), (29, .int .i64 x128), (30, .int .i64 x129)] ⟨rfl, rfl, rfl, rfl, rfl, rfl, rfl, rfl, trivial⟩ (fun u => ?_)
      refine c_sta ⟨w0, M, (100060, g22, .cells #[.int .i64 x23, .int .i64 x28, .int .i64 x33, .int .i64 x38] 93 (0, 0)) :: (100040, g20, .cells #[.int .u16 x3.fID, .bool x3.fResponse, .bool x3.fAuthoritative, .bool x3.fTruncated, .bool x3.fDesired, .bool x3.fAvailable, .int .i64 x3.fOpcode, .int .i64 x3.fCode, .slice A106 l105.length c107, .slice A9 x3.fAnswers.length c10, .slice A12 x3.fAuthorities.length c13, .slice A15 x3.fExtras.length c16] 62 (0, 0)) :: (100020, g1, .cells #[.int .u16 0, .bool false, .bool false, .bool false, .bool false, .bool false, .int .i64 0, .int .i64 0, .slice none 0 0, .slice none 0 0, .slice none 0 0, .slice none 0 0] 62 (0, 0)) :: H, (101420, ⟨.slice A131 x127.length c132, 27, 5, x127.length, x127.flatMap GRR.enc⟩) :: (101290, ⟨.slice A122 x118.length c123, 27, 5, x118.length, x118.flatMap GRR.enc⟩) :: (101160, ⟨.slice A113 x109.length c114, 27, 5, x109.length, x109.flatMap GRR.enc⟩) :: (100370, ⟨.slice A106 l105.length c107, 74, 3, l105.length, l105.flatMap GQuestion.enc⟩) :: R, φ18⟩ (fun _ h => h) <| c_seq <| c_seq <| c_region <| g_v rfl r_move <| g_v rfl (r_neq rfl rfl) <| g_nil <| d_then ?_
      refine c_cond rfl (fun h135 => ?_) (fun h135 => ?_)
      ·
       replace hm := ite_t hm (of_decide_eq_true h135)
       refine c_seq <| c_region <| g_v rfl (r_build _ rfl (bld62_16)) <| g_v rfl r_move <| g_storeL (tag := 100020) rfl rfl rfl rfl Try.sizeOf62 rfl rfl <| g_v rfl r_assign <| g_nil <| d_then <| c_ret <| d_ret_then ?_
       replace hm := Option.some.inj hm
       subst hm
       refine d_retC (none, 0, none, 0, none, 0, none, 0) Try.results44 ?_ ⟨(Nat.le_refl 0), (Nat.le_refl 0), (Nat.le_refl 0), (Nat.le_refl 0)⟩ (fun W h => ok_pre (H1 := [_, _, _]) (R1 := [_, _, _, _]) h (fun W hφ => ⟨(q18 _ hφ), (fun W _ => Cl.nil _ _) W hφ, (fun W _ => Cl.nil _ _) W hφ, (fun W _ => Cl.nil _ _) W hφ, (fun W _ => Cl.nil _ _) W hφ⟩)) (.inr rfl)
       refine res_agg (tag := 100020) rfl rfl Try.isAgg62 Try.sizeOf62 <| res_tmp <| res_nil ?_
       exact rfl
      ·
       replace hm := ite_f hm (of_decide_eq_false h135)
       refine c_skip <| d_then <| c_seq <| c_region <| g_v rfl r_move <| g_v rfl (r_field (n := 9) Try.underlying62 rfl Try.sizeOf32 rfl rfl) <| g_storeL (tag := 100040) rfl rfl rfl rfl Try.sizeOf32 rfl rfl <| g_nil <| d_then <| c_seq ?_
       refine c_region <| g_v rfl r_move <| g_v rfl (r_field (n := 10) Try.underlying62 rfl Try.sizeOf32 rfl rfl) <| g_storeL (tag := 100040) rfl rfl rfl rfl Try.sizeOf32 rfl rfl <| g_nil <| d_then <| c_seq <| c_region <| g_v rfl r_move <| g_v rfl (r_field (n := 11) Try.underlying62 rfl Try.sizeOf32 rfl rfl) ?_
       refine g_storeL (tag := 100040) rfl rfl rfl rfl Try.sizeOf32 rfl rfl <| g_nil <| d_then ?_
       refine c_flat [(0, .string p0), (2, .pointer (some ⟨g1, 0, none⟩)), (4, .pointer (some ⟨g20, 0, none⟩)), (29, .int .i64 x128)] ⟨rfl, rfl, rfl, rfl, trivial⟩ (fun u => ?_)
       refine c_sta ⟨w0, M, (100060, g22, .cells #[.int .i64 x23, .int .i64 x28, .int .i64 x33, .int .i64 x38] 93 (0, 0)) :: (100040, g20, .cells #[.int .u16 x3.fID, .bool x3.fResponse, .bool x3.fAuthoritative, .bool x3.fTruncated, .bool x3.fDesired, .bool x3.fAvailable, .int .i64 x3.fOpcode, .int .i64 x3.fCode, .slice A106 l105.length c107, .slice A113 x109.length c114, .slice A122 x118.length c123, .slice A131 x127.length c132] 62 (0, 0)) :: (100020, g1, .cells #[.int .u16 0, .bool false, .bool false, .bool false, .bool false, .bool false, .int .i64 0, .int .i64 0, .slice none 0 0, .slice none 0 0, .slice none 0 0, .slice none 0 0] 62 (0, 0)) :: H, (101420, ⟨.slice A131 x127.length c132, 27, 5, x127.length, x127.flatMap GRR.enc⟩) :: (101290, ⟨.slice A122 x118.length c123, 27, 5, x118.length, x118.flatMap GRR.enc⟩) :: (101160, ⟨.slice A113 x109.length c114, 27, 5, x109.length, x109.flatMap GRR.enc⟩) :: (100370, ⟨.slice A106 l105.length c107, 74, 3, l105.length, l105.flatMap GQuestion.enc⟩) :: R, φ18⟩ (fun _ h => h) <| c_seq <| c_seq <| c_region <| g_v rfl r_move <| g_v rfl r_move <| g_v rfl (r_len Try.underlying9 rfl) <| g_v rfl (r_neq rfl rfl) <| g_nil <| d_then ?_
       refine c_cond rfl (fun h136 => ?_) (fun h136 => ?_)
       ·
        replace hm := ite_t hm (of_decide_eq_true h136)
        refine c_seq <| c_region <| g_v rfl (r_build _ rfl (bld62_16)) <| g_storeL (tag := 100020) rfl rfl rfl rfl Try.sizeOf62 rfl rfl <| g_v rfl r_assign <| g_nil <| d_then <| c_ret <| d_ret_then ?_
        replace hm := Option.some.inj hm
        subst hm
        refine d_retC (none, 0, none, 0, none, 0, none, 0) Try.results44 ?_ ⟨(Nat.le_refl 0), (Nat.le_refl 0), (Nat.le_refl 0), (Nat.le_refl 0)⟩ (fun W h => ok_pre (H1 := [_, _, _]) (R1 := [_, _, _, _]) h (fun W hφ => ⟨(q18 _ hφ), (fun W _ => Cl.nil _ _) W hφ, (fun W _ => Cl.nil _ _) W hφ, (fun W _ => Cl.nil _ _) W hφ, (fun W _ => Cl.nil _ _) W hφ⟩)) (.inr rfl)
        refine res_agg (tag := 100020) rfl rfl Try.isAgg62 Try.sizeOf62 <| res_tmp <| res_nil ?_
        exact rfl
       ·
        replace hm := ite_f hm (of_decide_eq_false h136)
        refine c_skip <| d_then <| c_seq <| c_region <| g_v rfl (r_loadA (tag := 100040) rfl rfl Try.isAgg62 Try.sizeOf62 rfl rfl) <| g_storeL (tag := 100020) rfl rfl rfl rfl Try.sizeOf62 rfl rfl <| g_v rfl r_assign <| g_nil <| d_then <| c_ret ?_
        replace hm := Option.some.inj hm
        subst hm
        refine d_shut (tag := 100370) rfl (fun φ137 q137' => ?_)
        have q137 : ∀ W, φ137 W → φ18 W := fun W h => (q137' W h).1
        have f138 := fun (W : World) (h : φ137 W) => (q137' W h).2
        refine d_shut (tag := 101160) rfl (fun φ139 q139' => ?_)
        have q139 : ∀ W, φ139 W → φ137 W := fun W h => (q139' W h).1
        have f140 := fun (W : World) (h : φ139 W) => (q139' W h).2
        refine d_shut (tag := 101290) rfl (fun φ141 q141' => ?_)
        have q141 : ∀ W, φ141 W → φ139 W := fun W h => (q141' W h).1
        have f142 := fun (W : World) (h : φ141 W) => (q141' W h).2
        refine d_shut (tag := 101420) rfl (fun φ143 q143' => ?_)
        have q143 : ∀ W, φ143 W → φ141 W := fun W h => (q143' W h).1
        have f144 := fun (W : World) (h : φ143 W) => (q143' W h).2
        refine d_retC (A106, c107, A113, c114, A122, c123, A131, c132) Try.results44 ?_ ⟨hc107, hc114, hc123, hc132⟩ (fun W h => ok_pre (H1 := [_, _, _]) (R1 := []) h (fun W hφ => ⟨(q18 _ (q137 _ (q139 _ (q141 _ (q143 _ hφ))))), (fun W h => f138 W (q139 _ (q141 _ (q143 _ h)))) W hφ, (fun W h => f140 W (q141 _ (q143 _ h))) W hφ, (fun W h => f142 W (q143 _ h)) W hφ, (fun W h => f144 W h) W hφ⟩)) (.inr rfl)
        refine res_agg (tag := 100020) rfl rfl Try.isAgg62 Try.sizeOf62 <| res_tmp <| res_nil ?_
        exact rfl
theorem eqq74 (a b : GQuestion) : ∀ d W, (Op.equalIn (d + 5) 74 (.agg #[.string a.fName, .int .u16 a.fType, .int .u16 a.fClass]) (.agg #[.string b.fName, .int .u16 b.fType, .int .u16 b.fClass])).run Try.prog W = .ok (decide (a = b)) W := by
  intro d W
  have h := eqs_of (d := d + 4) (xs := #[.string a.fName, .int .u16 a.fType, .int .u16 a.fClass]) (ys := #[.string b.fName, .int .u16 b.fType, .int .u16 b.fClass]) (w := W) Try.underlying74 (by kernel_rfl) (eqs_cons (a := .string a.fName) (b := .string b.fName) rfl (by kernel_rfl) (by kernel_rfl) (eqs_str Try.underlying9) (eqs_cons (a := .int .u16 a.fType) (b := .int .u16 b.fType) rfl (by kernel_rfl) (by kernel_rfl) (eqs_int Try.underlying24) (eqs_cons (a := .int .u16 a.fClass) (b := .int .u16 b.fClass) rfl (by kernel_rfl) (by kernel_rfl) (eqs_int Try.underlying24) eqs_nil)))
  refine h.trans ?_
  congr 1
  cases a; cases b
  simp only [GQuestion.mk.injEq, Bool.and_true]
  simp only [Bool.decide_and]
theorem eqg74 : Try.prog.eqGuardType Try.prog.depth 74 = false := by kernel_rfl
theorem eqq27 (a b : GRR) : ∀ d W, (Op.equalIn (d + 5) 27 (.agg #[.string a.fName, .int .u16 a.fType, .int .u16 a.fClass, .int .u32 a.fTTL, .string a.fData]) (.agg #[.string b.fName, .int .u16 b.fType, .int .u16 b.fClass, .int .u32 b.fTTL, .string b.fData])).run Try.prog W = .ok (decide (a = b)) W := by
  intro d W
  have h := eqs_of (d := d + 4) (xs := #[.string a.fName, .int .u16 a.fType, .int .u16 a.fClass, .int .u32 a.fTTL, .string a.fData]) (ys := #[.string b.fName, .int .u16 b.fType, .int .u16 b.fClass, .int .u32 b.fTTL, .string b.fData]) (w := W) Try.underlying27 (by kernel_rfl) (eqs_cons (a := .string a.fName) (b := .string b.fName) rfl (by kernel_rfl) (by kernel_rfl) (eqs_str Try.underlying9) (eqs_cons (a := .int .u16 a.fType) (b := .int .u16 b.fType) rfl (by kernel_rfl) (by kernel_rfl) (eqs_int Try.underlying24) (eqs_cons (a := .int .u16 a.fClass) (b := .int .u16 b.fClass) rfl (by kernel_rfl) (by kernel_rfl) (eqs_int Try.underlying24) (eqs_cons (a := .int .u32 a.fTTL) (b := .int .u32 b.fTTL) rfl (by kernel_rfl) (by kernel_rfl) (eqs_int Try.underlying25) (eqs_cons (a := .string a.fData) (b := .string b.fData) rfl (by kernel_rfl) (by kernel_rfl) (eqs_str Try.underlying9) eqs_nil)))))
  refine h.trans ?_
  congr 1
  cases a; cases b
  simp only [GRR.mk.injEq, Bool.and_true]
  simp only [Bool.decide_and]
theorem eqg27 : Try.prog.eqGuardType Try.prog.depth 27 = false := by kernel_rfl
noncomputable def m_ref06_sameRRs_j1  : Option Bool :=
  some true
noncomputable def m_ref06_sameRRs_s2 (p0 : List GRR) (p1 : List GRR) (i85 : Int) : Option (Int ⊕ (Unit ⊕ Bool)) :=
  if i85 < (p0.length : Int) then
    (at_ p0 i85).bind fun x131 =>
    (at_ p1 i85).bind fun x135 =>
    if x131 = x135 then
      some (.inl (w64 (i85 + 1)))
    else
      some (.inr (.inr false))
  else
    some (.inr (.inl ()))
noncomputable def m_ref06_sameRRs (p0 : List GRR) (p1 : List GRR) : Option Bool :=
  if (p0.length : Int) ≠ (p1.length : Int) then
    some false
  else
    (loop (fun s => m_ref06_sameRRs_s2 p0 p1 s) 0).bind fun e => Sum.elim (fun e => m_ref06_sameRRs_j1) (fun x => some x) e
theorem c_ref06_sameRRs {w0 : World} {M : Nat → Prop} {H : List (Nat × Nat × Obj)} {R : List (Nat × Row)} {φ : World → Prop} (p0 : List GRR) (Ap0_0 : Option Addr) (cp0_0 : Nat) (hcp0_0 : p0.length ≤ cp0_0) (fp0_0 : ∀ W, (Sta.mk w0 M H R φ).ok W → Cl W Ap0_0 (p0.flatMap GRR.enc)) (p1 : List GRR) (Ap1_0 : Option Addr) (cp1_0 : Nat) (hcp1_0 : p1.length ≤ cp1_0) (fp1_0 : ∀ W, (Sta.mk w0 M H R φ).ok W → Cl W Ap1_0 (p1.flatMap GRR.enc)) (r : Bool) (hm : m_ref06_sameRRs p0 p1 = some r) :
    Cn Try.prog 94 #[.slice Ap0_0 p0.length cp0_0, .slice Ap1_0 p1.length cp1_0] ⟨w0, M, H, R, φ⟩ (fun x : Unit => .bool r) (fun x => True) (fun x => ⟨w0, M, H, R, φ⟩) := by
 unfold m_ref06_sameRRs at hm
 refine cn_intro (fn := Try.f94) (N := 26) Try.func94 rfl Try.ntmps94 rfl <| c_seq <| c_region <| g_v rfl r_assign <| g_nil <| d_then <| c_seq <| c_seq <| c_region <| g_v rfl r_move ?_
 refine g_v rfl (r_lenL Try.underlying32 rfl) <| g_v rfl r_move <| g_v rfl (r_lenL Try.underlying32 rfl) <| g_v rfl (r_neq rfl rfl) <| g_nil <| d_then ?_
 refine c_cond rfl (fun h1 => ?_) (fun h1 => ?_)
 ·
  replace hm := ite_t hm (of_decide_eq_true h1)
  refine c_seq <| c_region <| g_v rfl r_assign <| g_nil <| d_then <| c_ret <| d_ret_then ?_
  replace hm := Option.some.inj hm
  subst hm
  refine d_retC () Try.results94 ?_ trivial (fun W h => ok_pre (H1 := []) (R1 := []) h (fun W hφ => hφ)) (.inr rfl)
  refine res_tmp <| res_nil ?_
  exact rfl
 ·
  replace hm := ite_f hm (of_decide_eq_false h1)
  refine c_skip <| d_then <| c_seq <| c_seq <| c_region <| g_v rfl r_assign <| g_nil <| d_then ?_
  refine c_cut (ι := Unit) [] (fun _ => []) (fun _ => ⟨w0, M, H, R, φ⟩) (fun _ => m_ref06_sameRRs_j1 = some r) ?_ (fun _ u hm => ?_)
  ·
   refine c_block ?_
   replace hm := bnd hm
   obtain ⟨out2, hl2, hr2⟩ := hm
   obtain ⟨n113', hl2⟩ := loop_lp hl2
   refine c_loopU (ι := Nat × Int) [0, 1, 5] (fun ⟨n113, i85⟩ => [(5, .int .i64 i85)]) (fun ⟨n113, i85⟩ => ⟨w0, M, H, R, φ⟩) (fun ⟨n113, i85⟩ => Lp (fun s => m_ref06_sameRRs_s2 p0 p1 s) n113 i85 out2) (fun ⟨n113, i85⟩ => n113) (n113', 0) hl2 ⟨rfl, rfl, rfl, trivial⟩ (fun W h => h.phi (fun W hφ => hφ)) (fun ⟨n113, i85⟩ u hlp => ?_)
   obtain ⟨o2, hm, hnx2⟩ := lp_step hlp
   clear hlp
   replace hm : m_ref06_sameRRs_s2 p0 p1 i85 = some o2 := hm
   unfold m_ref06_sameRRs_s2 at hm
   refine c_flat [(0, .slice Ap0_0 p0.length cp0_0), (1, .slice Ap1_0 p1.length cp1_0), (5, .int .i64 i85)] ⟨rfl, rfl, rfl, trivial⟩ (fun u => ?_)
   refine c_sta ⟨w0, M, H, R, φ⟩ (fun _ h => h) <| c_seq <| c_seq <| c_region <| g_v rfl r_move <| g_v rfl r_move <| g_v rfl (r_lenL Try.underlying32 rfl) <| g_v rfl (r_lss rfl rfl) <| g_nil <| d_then ?_
   refine c_cond rfl (fun h114 => ?_) (fun h114 => ?_)
   ·
    replace hm := ite_t hm (of_decide_eq_true h114)
    refine c_skip <| d_then <| c_seq <| c_block <| c_seq <| ga_start (n := 9) ⟨w0, M, H, R, φ⟩ [] #[false, false, false, false, false, false, false, false, false] (fun W h => h.phi (fun W hφ => hφ)) mixed rfl rfl <| ga_v (i := 0) (bz 9 1) rfl (by kernel_rfl) (fun _ _ _ _ h => h) rfl (r_move) <| ga_v (i := 1) (bz 9 3) rfl (by kernel_rfl) (fun _ _ _ _ h => h) rfl (r_move) ?_
    replace hm := bnd hm
    obtain ⟨x131, hx131, hm⟩ := hm
    refine ga_know _ (fun W hS => cl_at (p := (Sta.mk w0 M H R φ).ok) (sz := 5) (fun _ => rfl) (by decide) (ok_pre (H1 := []) (R1 := []) hS (fun W h => h)) fp0_0 hx131) ?_
    rintro ⟨ad132, hA134, f133⟩
    refine ga_v (i := 2) (bz 9 7) rfl (by kernel_rfl) (fun _ _ _ _ h => h) rfl (r_ix Try.underlying32 Try.sizeOf27 rfl hA134 rfl hx131) <| ga_v (i := 3) (bz 9 15) rfl (by kernel_rfl) (fun _ _ _ _ h => h) rfl (r_ldA rfl Try.isAgg27 Try.sizeOf27 (fun W hS => (f133 W (ok_pre (H1 := []) (R1 := []) hS (fun W h => h))).take 5) rfl) <| ga_v (i := 4) (bz 9 31) rfl (by kernel_rfl) (fun _ _ _ _ h => h) rfl (r_move) <| ga_r (i := 5) (bz 9 63) rfl (by kernel_rfl) (by decide) rfl (r_move) ?_
    replace hm := bnd hm
    obtain ⟨x135, hx135, hm⟩ := hm
    refine ga_know _ (fun W hS => cl_at (p := (Sta.mk w0 M H R φ).ok) (sz := 5) (fun _ => rfl) (by decide) (ok_pre (H1 := []) (R1 := []) hS (fun W h => h)) fp1_0 hx135) ?_
    rintro ⟨ad136, hA138, f137⟩
    refine ga_r (i := 6) (bz 9 127) rfl (by kernel_rfl) (by decide) rfl (r_ix Try.underlying32 Try.sizeOf27 rfl hA138 rfl hx135) <| ga_r (i := 7) (bz 9 255) rfl (by kernel_rfl) (by decide) rfl (r_ldA rfl Try.isAgg27 Try.sizeOf27 (fun W hS => (f137 W (ok_pre (H1 := []) (R1 := []) hS (fun W h => h))).take 5) rfl) <| ga_r (i := 8) (bz 9 511) rfl (by kernel_rfl) (by decide) rfl (r_neqA rfl rfl eqg27 (eqq27 x131 x135)) <| ga_done (by kernel_rfl) <| d_then ?_
    refine c_flat [(0, .slice Ap0_0 p0.length cp0_0), (1, .slice Ap1_0 p1.length cp1_0), (5, .int .i64 i85), (25, .bool (!(decide (x131 = x135))))] ⟨rfl, rfl, rfl, rfl, trivial⟩ (fun u => ?_)
    refine c_cond rfl (fun h139 => ?_) (fun h139 => ?_)
    ·
     have h139' : (decide (x131 = x135)) = false := by revert h139; cases (decide (x131 = x135)) <;> simp
     replace hm := ite_f hm (of_decide_eq_false h139')
     refine c_seq <| c_region <| g_v rfl r_assign <| g_nil <| d_then <| c_ret <| d_ret_block <| d_ret_then <| d_ret_then <| d_ret_block ?_
     refine d_ret_then <| d_ret_then ?_
     replace hm := nx_out (C := (fun e => Sum.elim (fun e => m_ref06_sameRRs_j1) (fun x => some x) e = some r)) hm hnx2 hr2
     replace hm : some false = some r := hm
     replace hm := Option.some.inj hm
     subst hm
     refine d_retC () Try.results94 ?_ trivial (fun W h => ok_pre (H1 := []) (R1 := []) h (fun W hφ => hφ)) (.inr rfl)
     refine res_tmp <| res_nil ?_
     exact rfl
    ·
     have h139' : (decide (x131 = x135)) = true := by revert h139; cases (decide (x131 = x135)) <;> simp
     replace hm := ite_t hm (of_decide_eq_true h139')
     refine c_skip <| d_normal_block <| d_then <| c_region <| g_v rfl r_move <| g_v rfl (r_add rfl rfl rfl) <| g_v rfl r_assign <| g_nil ?_
     obtain ⟨n140, hn140, hlp⟩ := nx_inl hm hnx2
     exact d_round (n140, w64 (i85 + 1)) hlp hn140 ⟨rfl, rfl, rfl, trivial⟩ (fun W h => h.phi (fun W hφ => hφ))
   ·
    replace hm := ite_f hm (of_decide_eq_false h114)
    refine c_exit <| d_exit_then <| d_exit_then <| d_exit_block ?_
    replace hm := nx_out (C := (fun e => Sum.elim (fun e => m_ref06_sameRRs_j1) (fun x => some x) e = some r)) hm hnx2 hr2
    exact d_round () hm Nat.zero_lt_one trivial (fun W h => h.phi (fun W hφ => hφ))
  ·
   unfold m_ref06_sameRRs_j1 at hm
   refine d_flat [] trivial (fun u => ?_)
   refine d_sta ⟨w0, M, H, R, φ⟩ (fun _ h => h) <| d_then <| c_seq <| c_region <| g_v rfl r_assign <| g_nil <| d_then <| c_ret ?_
   replace hm := Option.some.inj hm
   subst hm
   refine d_retC () Try.results94 ?_ trivial (fun W h => ok_pre (H1 := []) (R1 := []) h (fun W hφ => hφ)) (.inr rfl)
   refine res_tmp <| res_nil ?_
   exact rfl
noncomputable def m_ref06_Same_j1 (p0 : GMessage) (p1 : GMessage) : Option Bool :=
  (m_ref06_sameRRs p0.fAnswers p1.fAnswers).bind fun x68 =>
  (m_ref06_sameRRs p0.fAuthorities p1.fAuthorities).bind fun x70 =>
  (m_ref06_sameRRs p0.fExtras p1.fExtras).bind fun x72 =>
  if x68 = true then
    if x70 = true then
      some x72
    else
      some false
  else
    some false
noncomputable def m_ref06_Same_s2 (p0 : GMessage) (p1 : GMessage) (i103 : Int) : Option (Int ⊕ (Unit ⊕ Bool)) :=
  if i103 < (p0.fQuestions.length : Int) then
    (at_ p0.fQuestions i103).bind fun x149 =>
    (at_ p1.fQuestions i103).bind fun x153 =>
    if x149 = x153 then
      some (.inl (w64 (i103 + 1)))
    else
      some (.inr (.inr false))
  else
    some (.inr (.inl ()))
noncomputable def m_ref06_Same (p0 : GMessage) (p1 : GMessage) : Option Bool :=
  if p0.fID ≠ p1.fID then
    some false
  else
    if (!(p0.fResponse == p1.fResponse)) = true then
      some false
    else
      if (!(p0.fAuthoritative == p1.fAuthoritative)) = true then
        some false
      else
        if (!(p0.fTruncated == p1.fTruncated)) = true then
          some false
        else
          if (!(p0.fDesired == p1.fDesired)) = true then
            some false
          else
            if (!(p0.fAvailable == p1.fAvailable)) = true then
              some false
            else
              if p0.fOpcode ≠ p1.fOpcode then
                some false
              else
                if p0.fCode ≠ p1.fCode then
                  some false
                else
                  if (p0.fQuestions.length : Int) ≠ (p1.fQuestions.length : Int) then
                    some false
                  else
                    (loop (fun s => m_ref06_Same_s2 p0 p1 s) 0).bind fun e => Sum.elim (fun e => m_ref06_Same_j1 p0 p1) (fun x => some x) e
theorem c_ref06_Same {w0 : World} {M : Nat → Prop} {H : List (Nat × Nat × Obj)} {R : List (Nat × Row)} {φ : World → Prop} (p0 : GMessage) (Ap0_0 : Option Addr) (cp0_0 : Nat) (hcp0_0 : p0.fQuestions.length ≤ cp0_0) (fp0_0 : ∀ W, (Sta.mk w0 M H R φ).ok W → Cl W Ap0_0 (p0.fQuestions.flatMap GQuestion.enc)) (Ap0_1 : Option Addr) (cp0_1 : Nat) (hcp0_1 : p0.fAnswers.length ≤ cp0_1) (fp0_1 : ∀ W, (Sta.mk w0 M H R φ).ok W → Cl W Ap0_1 (p0.fAnswers.flatMap GRR.enc)) (Ap0_2 : Option Addr) (cp0_2 : Nat) (hcp0_2 : p0.fAuthorities.length ≤ cp0_2) (fp0_2 : ∀ W, (Sta.mk w0 M H R φ).ok W → Cl W Ap0_2 (p0.fAuthorities.flatMap GRR.enc)) (Ap0_3 : Option Addr) (cp0_3 : Nat) (hcp0_3 : p0.fExtras.length ≤ cp0_3) (fp0_3 : ∀ W, (Sta.mk w0 M H R φ).ok W → Cl W Ap0_3 (p0.fExtras.flatMap GRR.enc)) (p1 : GMessage) (Ap1_0 : Option Addr) (cp1_0 : Nat) (hcp1_0 : p1.fQuestions.length ≤ cp1_0) (fp1_0 : ∀ W, (Sta.mk w0 M H R φ).ok W → Cl W Ap1_0 (p1.fQuestions.flatMap GQuestion.enc)) (Ap1_1 : Option Addr) (cp1_1 : Nat) (hcp1_1 : p1.fAnswers.length ≤ cp1_1) (fp1_1 : ∀ W, (Sta.mk w0 M H R φ).ok W → Cl W Ap1_1 (p1.fAnswers.flatMap GRR.enc)) (Ap1_2 : Option Addr) (cp1_2 : Nat) (hcp1_2 : p1.fAuthorities.length ≤ cp1_2) (fp1_2 : ∀ W, (Sta.mk w0 M H R φ).ok W → Cl W Ap1_2 (p1.fAuthorities.flatMap GRR.enc)) (Ap1_3 : Option Addr) (cp1_3 : Nat) (hcp1_3 : p1.fExtras.length ≤ cp1_3) (fp1_3 : ∀ W, (Sta.mk w0 M H R φ).ok W → Cl W Ap1_3 (p1.fExtras.flatMap GRR.enc)) (r : Bool) (hm : m_ref06_Same p0 p1 = some r) :
    Cn Try.prog 47 #[.agg #[.int .u16 p0.fID, .bool p0.fResponse, .bool p0.fAuthoritative, .bool p0.fTruncated, .bool p0.fDesired, .bool p0.fAvailable, .int .i64 p0.fOpcode, .int .i64 p0.fCode, .slice Ap0_0 p0.fQuestions.length cp0_0, .slice Ap0_1 p0.fAnswers.length cp0_1, .slice Ap0_2 p0.fAuthorities.length cp0_2, .slice Ap0_3 p0.fExtras.length cp0_3], .agg #[.int .u16 p1.fID, .bool p1.fResponse, .bool p1.fAuthoritative, .bool p1.fTruncated, .bool p1.fDesired, .bool p1.fAvailable, .int .i64 p1.fOpcode, .int .i64 p1.fCode, .slice Ap1_0 p1.fQuestions.length cp1_0, .slice Ap1_1 p1.fAnswers.length cp1_1, .slice Ap1_2 p1.fAuthorities.length cp1_2, .slice Ap1_3 p1.fExtras.length cp1_3]] ⟨w0, M, H, R, φ⟩ (fun x : Unit => .bool r) (fun x => True) (fun x => ⟨w0, M, H, R, φ⟩) := by
 unfold m_ref06_Same at hm
 refine cn_intro (fn := Try.f47) (N := 112) Try.func47 rfl Try.ntmps47 rfl <| c_seq <| c_region ?_
 refine g_e rfl (e_box 100020 rfl) (fun g1 _ => ?_)
 refine g_e rfl (e_box 100030 rfl) (fun g2 _ => ?_)
 refine g_v rfl r_assign <| g_nil <| d_then <| c_seq <| c_seq <| c_region <| g_v rfl (r_field (n := 0) Try.underlying62 rfl Try.sizeOf24 rfl rfl) <| g_v rfl (r_load (tag := 100020) rfl rfl rfl Try.isAgg24) <| g_v rfl (r_field (n := 0) Try.underlying62 rfl Try.sizeOf24 rfl rfl) <| g_v rfl (r_load (tag := 100030) rfl rfl rfl Try.isAgg24) ?_
 refine g_v rfl (r_neq rfl rfl) <| g_v rfl r_move ?_
 refine g_if rfl rfl rfl rfl rfl (fun h3 => ?_) (fun h3 => ?_)
 ·
  replace hm := ite_f hm (of_decide_eq_false h3)
  refine g_v rfl (r_field (n := 1) Try.underlying62 rfl Try.sizeOf4 rfl rfl) <| g_do rfl rfl rfl rfl rfl h3 <| g_v rfl (r_load (tag := 100020) rfl rfl rfl Try.isAgg4) <| g_do rfl rfl rfl rfl rfl h3 <| g_v rfl (r_field (n := 1) Try.underlying62 rfl Try.sizeOf4 rfl rfl) <| g_do rfl rfl rfl rfl rfl h3 <| g_v rfl (r_load (tag := 100030) rfl rfl rfl Try.isAgg4) <| g_do rfl rfl rfl rfl rfl h3 <| g_v rfl (r_neqBo Try.underlying4 rfl rfl) <| g_v rfl (r_pick0 rfl h3) ?_
  refine g_v rfl r_move ?_
  refine g_if rfl rfl rfl rfl rfl (fun h4 => ?_) (fun h4 => ?_)
  ·
   replace hm := ite_f hm (bool_nt h4)
   refine g_v rfl (r_field (n := 2) Try.underlying62 rfl Try.sizeOf4 rfl rfl) <| g_do rfl rfl rfl rfl rfl h4 <| g_v rfl (r_load (tag := 100020) rfl rfl rfl Try.isAgg4) <| g_do rfl rfl rfl rfl rfl h4 <| g_v rfl (r_field (n := 2) Try.underlying62 rfl Try.sizeOf4 rfl rfl) <| g_do rfl rfl rfl rfl rfl h4 <| g_v rfl (r_load (tag := 100030) rfl rfl rfl Try.isAgg4) <| g_do rfl rfl rfl rfl rfl h4 <| g_v rfl (r_neqBo Try.underlying4 rfl rfl) <| g_v rfl (r_pick0 rfl h4) ?_
   refine g_v rfl r_move ?_
   refine g_if rfl rfl rfl rfl rfl (fun h5 => ?_) (fun h5 => ?_)
   ·
    replace hm := ite_f hm (bool_nt h5)
    refine g_v rfl (r_field (n := 3) Try.underlying62 rfl Try.sizeOf4 rfl rfl) <| g_do rfl rfl rfl rfl rfl h5 <| g_v rfl (r_load (tag := 100020) rfl rfl rfl Try.isAgg4) <| g_do rfl rfl rfl rfl rfl h5 <| g_v rfl (r_field (n := 3) Try.underlying62 rfl Try.sizeOf4 rfl rfl) <| g_do rfl rfl rfl rfl rfl h5 <| g_v rfl (r_load (tag := 100030) rfl rfl rfl Try.isAgg4) <| g_do rfl rfl rfl rfl rfl h5 <| g_v rfl (r_neqBo Try.underlying4 rfl rfl) <| g_v rfl (r_pick0 rfl h5) ?_
    refine g_v rfl r_move ?_
    refine g_if rfl rfl rfl rfl rfl (fun h6 => ?_) (fun h6 => ?_)
    ·
     replace hm := ite_f hm (bool_nt h6)
     refine g_v rfl (r_field (n := 4) Try.underlying62 rfl Try.sizeOf4 rfl rfl) <| g_do rfl rfl rfl rfl rfl h6 <| g_v rfl (r_load (tag := 100020) rfl rfl rfl Try.isAgg4) <| g_do rfl rfl rfl rfl rfl h6 <| g_v rfl (r_field (n := 4) Try.underlying62 rfl Try.sizeOf4 rfl rfl) <| g_do rfl rfl rfl rfl rfl h6 <| g_v rfl (r_load (tag := 100030) rfl rfl rfl Try.isAgg4) <| g_do rfl rfl rfl rfl rfl h6 <| g_v rfl (r_neqBo Try.underlying4 rfl rfl) <| g_v rfl (r_pick0 rfl h6) ?_
     refine g_v rfl r_move ?_
     refine g_if rfl rfl rfl rfl rfl (fun h7 => ?_) (fun h7 => ?_)
     ·
      replace hm := ite_f hm (bool_nt h7)
      refine g_v rfl (r_field (n := 5) Try.underlying62 rfl Try.sizeOf4 rfl rfl) <| g_do rfl rfl rfl rfl rfl h7 <| g_v rfl (r_load (tag := 100020) rfl rfl rfl Try.isAgg4) <| g_do rfl rfl rfl rfl rfl h7 <| g_v rfl (r_field (n := 5) Try.underlying62 rfl Try.sizeOf4 rfl rfl) <| g_do rfl rfl rfl rfl rfl h7 <| g_v rfl (r_load (tag := 100030) rfl rfl rfl Try.isAgg4) <| g_do rfl rfl rfl rfl rfl h7 <| g_v rfl (r_neqBo Try.underlying4 rfl rfl) <| g_v rfl (r_pick0 rfl h7) ?_
      refine g_v rfl r_move ?_
      refine g_if rfl rfl rfl rfl rfl (fun h8 => ?_) (fun h8 => ?_)
      ·
       replace hm := ite_f hm (bool_nt h8)
       refine g_v rfl (r_field (n := 6) Try.underlying62 rfl Try.sizeOf3 rfl rfl) <| g_do rfl rfl rfl rfl rfl h8 <| g_v rfl (r_load (tag := 100020) rfl rfl rfl Try.isAgg3) <| g_do rfl rfl rfl rfl rfl h8 <| g_v rfl (r_field (n := 6) Try.underlying62 rfl Try.sizeOf3 rfl rfl) <| g_do rfl rfl rfl rfl rfl h8 <| g_v rfl (r_load (tag := 100030) rfl rfl rfl Try.isAgg3) <| g_do rfl rfl rfl rfl rfl h8 <| g_v rfl (r_neq rfl rfl) <| g_v rfl (r_pick0 rfl h8) ?_
       refine g_v rfl r_move ?_
       refine g_if rfl rfl rfl rfl rfl (fun h9 => ?_) (fun h9 => ?_)
       ·
        replace hm := ite_f hm (of_decide_eq_false h9)
        refine g_v rfl (r_field (n := 7) Try.underlying62 rfl Try.sizeOf3 rfl rfl) <| g_do rfl rfl rfl rfl rfl h9 <| g_v rfl (r_load (tag := 100020) rfl rfl rfl Try.isAgg3) <| g_do rfl rfl rfl rfl rfl h9 <| g_v rfl (r_field (n := 7) Try.underlying62 rfl Try.sizeOf3 rfl rfl) <| g_do rfl rfl rfl rfl rfl h9 <| g_v rfl (r_load (tag := 100030) rfl rfl rfl Try.isAgg3) <| g_do rfl rfl rfl rfl rfl h9 <| g_v rfl (r_neq rfl rfl) <| g_v rfl (r_pick0 rfl h9) ?_
        refine g_v rfl r_move ?_
        refine g_if rfl rfl rfl rfl rfl (fun h10 => ?_) (fun h10 => ?_)
        ·
         replace hm := ite_f hm (of_decide_eq_false h10)
         refine g_v rfl (r_field (n := 8) Try.underlying62 rfl Try.sizeOf60 rfl rfl) <| g_do rfl rfl rfl rfl rfl h10 <| g_v rfl (r_load (tag := 100020) rfl rfl rfl Try.isAgg60) <| g_do rfl rfl rfl rfl rfl h10 <| g_v rfl (r_lenL Try.underlying60 rfl) <| g_do rfl rfl rfl rfl rfl h10 <| g_v rfl (r_field (n := 8) Try.underlying62 rfl Try.sizeOf60 rfl rfl) <| g_do rfl rfl rfl rfl rfl h10 <| g_v rfl (r_load (tag := 100030) rfl rfl rfl Try.isAgg60) <| g_do rfl rfl rfl rfl rfl h10 ?_
         refine g_v rfl (r_lenL Try.underlying60 rfl) <| g_do rfl rfl rfl rfl rfl h10 <| g_v rfl (r_neq rfl rfl) <| g_v rfl (r_pick0 rfl h10) <| g_nil <| d_then ?_
         refine c_flat [(2, .pointer (some ⟨g1, 0, none⟩)), (3, .pointer (some ⟨g2, 0, none⟩)), (71, .bool (decide ((p0.fQuestions.length : Int) ≠ (p1.fQuestions.length : Int))))] ⟨rfl, rfl, rfl, trivial⟩ (fun u => ?_)
         refine c_sta ⟨w0, M, (100030, g2, .cells #[.int .u16 p1.fID, .bool p1.fResponse, .bool p1.fAuthoritative, .bool p1.fTruncated, .bool p1.fDesired, .bool p1.fAvailable, .int .i64 p1.fOpcode, .int .i64 p1.fCode, .slice Ap1_0 p1.fQuestions.length cp1_0, .slice Ap1_1 p1.fAnswers.length cp1_1, .slice Ap1_2 p1.fAuthorities.length cp1_2, .slice Ap1_3 p1.fExtras.length cp1_3] 62 (0, 0)) :: (100020, g1, .cells #[.int .u16 p0.fID, .bool p0.fResponse, .bool p0.fAuthoritative, .bool p0.fTruncated, .bool p0.fDesired, .bool p0.fAvailable, .int .i64 p0.fOpcode, .int .i64 p0.fCode, .slice Ap0_0 p0.fQuestions.length cp0_0, .slice Ap0_1 p0.fAnswers.length cp0_1, .slice Ap0_2 p0.fAuthorities.length cp0_2, .slice Ap0_3 p0.fExtras.length cp0_3] 62 (0, 0)) :: H, R, φ⟩ (fun _ h => h) ?_
         refine c_cond rfl (fun h11 => ?_) (fun h11 => ?_)
         ·
          replace hm := ite_t hm (of_decide_eq_true h11)
          refine c_seq <| c_region <| g_v rfl r_assign <| g_nil <| d_then <| c_ret <| d_ret_then ?_
          replace hm := Option.some.inj hm
          subst hm
          refine d_retC () Try.results47 ?_ trivial (fun W h => ok_pre (H1 := [_, _]) (R1 := []) h (fun W hφ => hφ)) (.inr rfl)
          refine res_tmp <| res_nil ?_
          exact rfl
         ·
          replace hm := ite_f hm (of_decide_eq_false h11)
          refine c_skip <| d_then <| c_seq <| c_seq <| c_region <| g_v rfl r_assign <| g_nil <| d_then ?_
          refine c_cut (ι := Unit) [2, 3] (fun _ => []) (fun _ => ⟨w0, M, (100030, g2, .cells #[.int .u16 p1.fID, .bool p1.fResponse, .bool p1.fAuthoritative, .bool p1.fTruncated, .bool p1.fDesired, .bool p1.fAvailable, .int .i64 p1.fOpcode, .int .i64 p1.fCode, .slice Ap1_0 p1.fQuestions.length cp1_0, .slice Ap1_1 p1.fAnswers.length cp1_1, .slice Ap1_2 p1.fAuthorities.length cp1_2, .slice Ap1_3 p1.fExtras.length cp1_3] 62 (0, 0)) :: (100020, g1, .cells #[.int .u16 p0.fID, .bool p0.fResponse, .bool p0.fAuthoritative, .bool p0.fTruncated, .bool p0.fDesired, .bool p0.fAvailable, .int .i64 p0.fOpcode, .int .i64 p0.fCode, .slice Ap0_0 p0.fQuestions.length cp0_0, .slice Ap0_1 p0.fAnswers.length cp0_1, .slice Ap0_2 p0.fAuthorities.length cp0_2, .slice Ap0_3 p0.fExtras.length cp0_3] 62 (0, 0)) :: H, R, φ⟩) (fun _ => m_ref06_Same_j1 p0 p1 = some r) ?_ (fun _ u hm => ?_)
          ·
           refine c_block ?_
           replace hm := bnd hm
           obtain ⟨out2, hl2, hr2⟩ := hm
           obtain ⟨n131', hl2⟩ := loop_lp hl2
           refine c_loopU (ι := Nat × Int) [2, 3, 5] (fun ⟨n131, i103⟩ => [(5, .int .i64 i103)]) (fun ⟨n131, i103⟩ => ⟨w0, M, (100030, g2, .cells #[.int .u16 p1.fID, .bool p1.fResponse, .bool p1.fAuthoritative, .bool p1.fTruncated, .bool p1.fDesired, .bool p1.fAvailable, .int .i64 p1.fOpcode, .int .i64 p1.fCode, .slice Ap1_0 p1.fQuestions.length cp1_0, .slice Ap1_1 p1.fAnswers.length cp1_1, .slice Ap1_2 p1.fAuthorities.length cp1_2, .slice Ap1_3 p1.fExtras.length cp1_3] 62 (0, 0)) :: (100020, g1, .cells #[.int .u16 p0.fID, .bool p0.fResponse, .bool p0.fAuthoritative, .bool p0.fTruncated, .bool p0.fDesired, .bool p0.fAvailable, .int .i64 p0.fOpcode, .int .i64 p0.fCode, .slice Ap0_0 p0.fQuestions.length cp0_0, .slice Ap0_1 p0.fAnswers.length cp0_1, .slice Ap0_2 p0.fAuthorities.length cp0_2, .slice Ap0_3 p0.fExtras.length cp0_3] 62 (0, 0)) :: H, R, φ⟩) (fun ⟨n131, i103⟩ => Lp (fun s => m_ref06_Same_s2 p0 p1 s) n131 i103 out2) (fun ⟨n131, i103⟩ => n131) (n131', 0) hl2 ⟨rfl, rfl, rfl, trivial⟩ (fun W h => h.phi (fun W hφ => hφ)) (fun ⟨n131, i103⟩ u hlp => ?_)
           obtain ⟨o2, hm, hnx2⟩ := lp_step hlp
           clear hlp
           replace hm : m_ref06_Same_s2 p0 p1 i103 = some o2 := hm
           unfold m_ref06_Same_s2 at hm
           refine c_flat [(2, .pointer (some ⟨g1, 0, none⟩)), (3, .pointer (some ⟨g2, 0, none⟩)), (5, .int .i64 i103)] ⟨rfl, rfl, rfl, trivial⟩ (fun u => ?_)
           refine c_seq <| c_seq <| c_region <| g_v rfl r_move <| g_v rfl (r_field (n := 8) Try.underlying62 rfl Try.sizeOf60 rfl rfl) <| g_v rfl (r_load (tag := 100020) rfl rfl rfl Try.isAgg60) <| g_v rfl (r_lenL Try.underlying60 rfl) <| g_v rfl (r_lss rfl rfl) <| g_nil <| d_then ?_
           refine c_cond rfl (fun h132 => ?_) (fun h132 => ?_)
           ·
            replace hm := ite_t hm (of_decide_eq_true h132)
            refine c_skip <| d_then <| c_seq <| c_block <| c_seq <| ga_start (n := 11) ⟨w0, M, (100030, g2, .cells #[.int .u16 p1.fID, .bool p1.fResponse, .bool p1.fAuthoritative, .bool p1.fTruncated, .bool p1.fDesired, .bool p1.fAvailable, .int .i64 p1.fOpcode, .int .i64 p1.fCode, .slice Ap1_0 p1.fQuestions.length cp1_0, .slice Ap1_1 p1.fAnswers.length cp1_1, .slice Ap1_2 p1.fAuthorities.length cp1_2, .slice Ap1_3 p1.fExtras.length cp1_3] 62 (0, 0)) :: (100020, g1, .cells #[.int .u16 p0.fID, .bool p0.fResponse, .bool p0.fAuthoritative, .bool p0.fTruncated, .bool p0.fDesired, .bool p0.fAvailable, .int .i64 p0.fOpcode, .int .i64 p0.fCode, .slice Ap0_0 p0.fQuestions.length cp0_0, .slice Ap0_1 p0.fAnswers.length cp0_1, .slice Ap0_2 p0.fAuthorities.length cp0_2, .slice Ap0_3 p0.fExtras.length cp0_3] 62 (0, 0)) :: H, R, φ⟩ [] #[false, false, false, false, false, false, false, false, false, false, false] (fun W h => h.phi (fun W hφ => hφ)) mixed rfl rfl <| ga_v (i := 0) (bz 11 1) rfl (by kernel_rfl) (fun _ _ _ _ h => h) rfl (r_field (n := 8) Try.underlying62 rfl Try.sizeOf60 rfl rfl) <| ga_v (i := 1) (bz 11 3) rfl (by kernel_rfl) (fun _ _ _ _ h => h) rfl (r_load (tag := 100020) rfl rfl rfl Try.isAgg60) <| ga_v (i := 2) (bz 11 7) rfl (by kernel_rfl) (fun _ _ _ _ h => h) rfl (r_move) ?_
            replace hm := bnd hm
            obtain ⟨x149, hx149, hm⟩ := hm
            refine ga_know _ (fun W hS => cl_at (p := (Sta.mk w0 M H R φ).ok) (sz := 3) (fun _ => rfl) (by decide) (ok_pre (H1 := [_, _]) (R1 := []) hS (fun W h => h)) fp0_0 hx149) ?_
            rintro ⟨ad150, hA152, f151⟩
            refine ga_v (i := 3) (bz 11 15) rfl (by kernel_rfl) (fun _ _ _ _ h => h) rfl (r_ix Try.underlying60 Try.sizeOf74 rfl hA152 rfl hx149) <| ga_v (i := 4) (bz 11 31) rfl (by kernel_rfl) (fun _ _ _ _ h => h) rfl (r_ldA rfl Try.isAgg74 Try.sizeOf74 (fun W hS => (f151 W (ok_pre (H1 := [_, _]) (R1 := []) hS (fun W h => h))).take 3) rfl) <| ga_v (i := 5) (bz 11 63) rfl (by kernel_rfl) (fun _ _ _ _ h => h) rfl (r_field (n := 8) Try.underlying62 rfl Try.sizeOf60 rfl rfl) <| ga_v (i := 6) (bz 11 127) rfl (by kernel_rfl) (fun _ _ _ _ h => h) rfl (r_load (tag := 100030) rfl rfl rfl Try.isAgg60) <| ga_r (i := 7) (bz 11 255) rfl (by kernel_rfl) (by decide) rfl (r_move) ?_
            replace hm := bnd hm
            obtain ⟨x153, hx153, hm⟩ := hm
            refine ga_know _ (fun W hS => cl_at (p := (Sta.mk w0 M H R φ).ok) (sz := 3) (fun _ => rfl) (by decide) (ok_pre (H1 := [_, _]) (R1 := []) hS (fun W h => h)) fp1_0 hx153) ?_
            rintro ⟨ad154, hA156, f155⟩
            refine ga_r (i := 8) (bz 11 511) rfl (by kernel_rfl) (by decide) rfl (r_ix Try.underlying60 Try.sizeOf74 rfl hA156 rfl hx153) <| ga_r (i := 9) (bz 11 1023) rfl (by kernel_rfl) (by decide) rfl (r_ldA rfl Try.isAgg74 Try.sizeOf74 (fun W hS => (f155 W (ok_pre (H1 := [_, _]) (R1 := []) hS (fun W h => h))).take 3) rfl) <| ga_r (i := 10) (bz 11 2047) rfl (by kernel_rfl) (by decide) rfl (r_neqA rfl rfl eqg74 (eqq74 x149 x153)) <| ga_done (by kernel_rfl) <| d_then ?_
            refine c_flat [(2, .pointer (some ⟨g1, 0, none⟩)), (3, .pointer (some ⟨g2, 0, none⟩)), (5, .int .i64 i103), (89, .bool (!(decide (x149 = x153))))] ⟨rfl, rfl, rfl, rfl, trivial⟩ (fun u => ?_)
            refine c_cond rfl (fun h157 => ?_) (fun h157 => ?_)
            ·
             have h157' : (decide (x149 = x153)) = false := by revert h157; cases (decide (x149 = x153)) <;> simp
             replace hm := ite_f hm (of_decide_eq_false h157')
             refine c_seq <| c_region <| g_v rfl r_assign <| g_nil <| d_then <| c_ret <| d_ret_block <| d_ret_then <| d_ret_then <| d_ret_block ?_
             refine d_ret_then <| d_ret_then ?_
             replace hm := nx_out (C := (fun e => Sum.elim (fun e => m_ref06_Same_j1 p0 p1) (fun x => some x) e = some r)) hm hnx2 hr2
             replace hm : some false = some r := hm
             replace hm := Option.some.inj hm
             subst hm
             refine d_retC () Try.results47 ?_ trivial (fun W h => ok_pre (H1 := [_, _]) (R1 := []) h (fun W hφ => hφ)) (.inr rfl)
             refine res_tmp <| res_nil ?_
             exact rfl
            ·
             have h157' : (decide (x149 = x153)) = true := by revert h157; cases (decide (x149 = x153)) <;> simp
             replace hm := ite_t hm (of_decide_eq_true h157')
             refine c_skip <| d_normal_block <| d_then <| c_region <| g_v rfl r_move <| g_v rfl (r_add rfl rfl rfl) <| g_v rfl r_assign <| g_nil ?_
             obtain ⟨n158, hn158, hlp⟩ := nx_inl hm hnx2
             exact d_round (n158, w64 (i103 + 1)) hlp hn158 ⟨rfl, rfl, rfl, trivial⟩ (fun W h => h.phi (fun W hφ => hφ))
           ·
            replace hm := ite_f hm (of_decide_eq_false h132)
            refine c_exit <| d_exit_then <| d_exit_then <| d_exit_block ?_
            replace hm := nx_out (C := (fun e => Sum.elim (fun e => m_ref06_Same_j1 p0 p1) (fun x => some x) e = some r)) hm hnx2 hr2
            exact d_round () hm Nat.zero_lt_one ⟨rfl, rfl, trivial⟩ (fun W h => h.phi (fun W hφ => hφ))
          ·
           unfold m_ref06_Same_j1 at hm
           refine d_flat [(2, .pointer (some ⟨g1, 0, none⟩)), (3, .pointer (some ⟨g2, 0, none⟩))] ⟨rfl, rfl, trivial⟩ (fun u => ?_)
           refine d_then <| c_seq <| c_region <| g_v rfl (r_field (n := 9) Try.underlying62 rfl Try.sizeOf32 rfl rfl) <| g_v rfl (r_load (tag := 100020) rfl rfl rfl Try.isAgg32) <| g_v rfl (r_field (n := 9) Try.underlying62 rfl Try.sizeOf32 rfl rfl) <| g_v rfl (r_load (tag := 100030) rfl rfl rfl Try.isAgg32) ?_
           replace hm := bnd hm
           obtain ⟨x68, hx69, hm⟩ := hm
           refine g_cn ⟨w0, M, _, _, φ⟩ (fun _ h => h) Try.call94 rfl rfl (c_ref06_sameRRs p0.fAnswers Ap0_1 cp0_1 hcp0_1 (fun W hS => fp0_1 W (ok_pre (H1 := [_, _]) (R1 := []) hS (fun W h => h))) p1.fAnswers Ap1_1 cp1_1 hcp1_1 (fun W hS => fp1_1 W (ok_pre (H1 := [_, _]) (R1 := []) hS (fun W h => h))) _ hx69) (fun _ _ => ?_)
           refine g_v rfl r_assign <| g_nil <| d_then <| c_seq <| c_region <| g_v rfl (r_field (n := 10) Try.underlying62 rfl Try.sizeOf32 rfl rfl) <| g_v rfl (r_load (tag := 100020) rfl rfl rfl Try.isAgg32) <| g_v rfl (r_field (n := 10) Try.underlying62 rfl Try.sizeOf32 rfl rfl) <| g_v rfl (r_load (tag := 100030) rfl rfl rfl Try.isAgg32) ?_
           replace hm := bnd hm
           obtain ⟨x70, hx71, hm⟩ := hm
           refine g_cn ⟨w0, M, _, _, φ⟩ (fun _ h => h) Try.call94 rfl rfl (c_ref06_sameRRs p0.fAuthorities Ap0_2 cp0_2 hcp0_2 (fun W hS => fp0_2 W (ok_pre (H1 := [_, _]) (R1 := []) hS (fun W h => h))) p1.fAuthorities Ap1_2 cp1_2 hcp1_2 (fun W hS => fp1_2 W (ok_pre (H1 := [_, _]) (R1 := []) hS (fun W h => h))) _ hx71) (fun _ _ => ?_)
           refine g_v rfl r_assign <| g_nil <| d_then ?_
           refine c_flat [(2, .pointer (some ⟨g1, 0, none⟩)), (3, .pointer (some ⟨g2, 0, none⟩)), (6, .bool x68), (7, .bool x70)] ⟨rfl, rfl, rfl, rfl, trivial⟩ (fun u => ?_)
           refine c_seq <| c_region <| g_v rfl (r_field (n := 11) Try.underlying62 rfl Try.sizeOf32 rfl rfl) <| g_v rfl (r_load (tag := 100020) rfl rfl rfl Try.isAgg32) <| g_v rfl (r_field (n := 11) Try.underlying62 rfl Try.sizeOf32 rfl rfl) <| g_v rfl (r_load (tag := 100030) rfl rfl rfl Try.isAgg32) ?_
           replace hm := bnd hm
           obtain ⟨x72, hx73, hm⟩ := hm
           refine g_cn ⟨w0, M, _, _, φ⟩ (fun _ h => h) Try.call94 rfl rfl (c_ref06_sameRRs p0.fExtras Ap0_3 cp0_3 hcp0_3 (fun W hS => fp0_3 W (ok_pre (H1 := [_, _]) (R1 := []) hS (fun W h => h))) p1.fExtras Ap1_3 cp1_3 hcp1_3 (fun W hS => fp1_3 W (ok_pre (H1 := [_, _]) (R1 := []) hS (fun W h => h))) _ hx73) (fun _ _ => ?_)
           refine g_v rfl r_assign <| g_nil <| d_then <| c_seq <| c_region <| g_v rfl r_move <| g_v rfl r_move ?_
           refine g_if rfl rfl rfl rfl rfl (fun h74 => ?_) (fun h74 => ?_)
           ·
            replace hm := ite_t hm h74
            refine g_v rfl r_move <| g_v rfl (r_pick1 rfl h74) <| g_v rfl r_move ?_
            refine g_if rfl rfl rfl rfl rfl (fun h75 => ?_) (fun h75 => ?_)
            ·
             replace hm := ite_t hm h75
             refine g_v rfl r_move <| g_v rfl (r_pick1 rfl h75) <| g_v rfl r_assign <| g_nil <| d_then ?_
             refine c_flat [(4, .bool x72)] ⟨rfl, trivial⟩ (fun u => ?_)
             refine c_ret ?_
             replace hm := Option.some.inj hm
             subst hm
             refine d_retC () Try.results47 ?_ trivial (fun W h => ok_pre (H1 := [_, _]) (R1 := []) h (fun W hφ => hφ)) (.inr rfl)
             refine res_tmp <| res_nil ?_
             exact rfl
            ·
             replace hm := ite_f hm (bool_nt h75)
             refine g_v rfl (r_pick0 rfl h75) <| g_v rfl r_assign <| g_nil <| d_then ?_
             refine c_flat [(4, .bool false)] ⟨rfl, trivial⟩ (fun u => ?_)
             refine c_ret ?_
             replace hm := Option.some.inj hm
             subst hm
             refine d_retC () Try.results47 ?_ trivial (fun W h => ok_pre (H1 := [_, _]) (R1 := []) h (fun W hφ => hφ)) (.inr rfl)
             refine res_tmp <| res_nil ?_
             exact rfl
           ·
            replace hm := ite_f hm (bool_nt h74)
            refine g_v rfl (r_pick0 rfl h74) <| g_v rfl r_move <| g_no rfl rfl rfl rfl rfl rfl <| g_v rfl (r_pick0 rfl rfl) <| g_v rfl r_assign <| g_nil <| d_then ?_
            refine c_flat [(4, .bool false)] ⟨rfl, trivial⟩ (fun u => ?_)
            refine c_ret ?_
            replace hm := Option.some.inj hm
            subst hm
            refine d_retC () Try.results47 ?_ trivial (fun W h => ok_pre (H1 := [_, _]) (R1 := []) h (fun W hφ => hφ)) (.inr rfl)
            refine res_tmp <| res_nil ?_
            exact rfl
        ·
         replace hm := ite_t hm (of_decide_eq_true h10)
         refine g_no rfl rfl rfl rfl rfl h10 <| g_no rfl rfl rfl rfl rfl h10 <| g_no rfl rfl rfl rfl rfl h10 <| g_no rfl rfl rfl rfl rfl h10 <| g_no rfl rfl rfl rfl rfl h10 <| g_no rfl rfl rfl rfl rfl h10 <| g_v rfl (r_pick1 rfl h10) <| g_nil <| d_then ?_
         refine c_flat [(2, .pointer (some ⟨g1, 0, none⟩)), (3, .pointer (some ⟨g2, 0, none⟩)), (71, .bool true)] ⟨rfl, rfl, rfl, trivial⟩ (fun u => ?_)
         refine c_sta ⟨w0, M, (100030, g2, .cells #[.int .u16 p1.fID, .bool p1.fResponse, .bool p1.fAuthoritative, .bool p1.fTruncated, .bool p1.fDesired, .bool p1.fAvailable, .int .i64 p1.fOpcode, .int .i64 p1.fCode, .slice Ap1_0 p1.fQuestions.length cp1_0, .slice Ap1_1 p1.fAnswers.length cp1_1, .slice Ap1_2 p1.fAuthorities.length cp1_2, .slice Ap1_3 p1.fExtras.length cp1_3] 62 (0, 0)) :: (100020, g1, .cells #[.int .u16 p0.fID, .bool p0.fResponse, .bool p0.fAuthoritative, .bool p0.fTruncated, .bool p0.fDesired, .bool p0.fAvailable, .int .i64 p0.fOpcode, .int .i64 p0.fCode, .slice Ap0_0 p0.fQuestions.length cp0_0, .slice Ap0_1 p0.fAnswers.length cp0_1, .slice Ap0_2 p0.fAuthorities.length cp0_2, .slice Ap0_3 p0.fExtras.length cp0_3] 62 (0, 0)) :: H, R, φ⟩ (fun _ h => h) <| c_cond1 rfl rfl <| c_seq <| c_region <| g_v rfl r_assign <| g_nil <| d_then <| c_ret <| d_ret_then ?_
         replace hm := Option.some.inj hm
         subst hm
         refine d_retC () Try.results47 ?_ trivial (fun W h => ok_pre (H1 := [_, _]) (R1 := []) h (fun W hφ => hφ)) (.inr rfl)
         refine res_tmp <| res_nil ?_
         exact rfl
       ·
        replace hm := ite_t hm (of_decide_eq_true h9)
        refine g_no rfl rfl rfl rfl rfl h9 <| g_no rfl rfl rfl rfl rfl h9 <| g_no rfl rfl rfl rfl rfl h9 <| g_no rfl rfl rfl rfl rfl h9 <| g_v rfl (r_pick1 rfl h9) <| g_v rfl r_move <| g_no rfl rfl rfl rfl rfl rfl <| g_no rfl rfl rfl rfl rfl rfl <| g_no rfl rfl rfl rfl rfl rfl <| g_no rfl rfl rfl rfl rfl rfl ?_
        refine g_no rfl rfl rfl rfl rfl rfl <| g_no rfl rfl rfl rfl rfl rfl <| g_no rfl rfl rfl rfl rfl rfl <| g_v rfl (r_pick1 rfl rfl) <| g_nil <| d_then ?_
        refine c_flat [(2, .pointer (some ⟨g1, 0, none⟩)), (3, .pointer (some ⟨g2, 0, none⟩)), (71, .bool true)] ⟨rfl, rfl, rfl, trivial⟩ (fun u => ?_)
        refine c_sta ⟨w0, M, (100030, g2, .cells #[.int .u16 p1.fID, .bool p1.fResponse, .bool p1.fAuthoritative, .bool p1.fTruncated, .bool p1.fDesired, .bool p1.fAvailable, .int .i64 p1.fOpcode, .int .i64 p1.fCode, .slice Ap1_0 p1.fQuestions.length cp1_0, .slice Ap1_1 p1.fAnswers.length cp1_1, .slice Ap1_2 p1.fAuthorities.length cp1_2, .slice Ap1_3 p1.fExtras.length cp1_3] 62 (0, 0)) :: (100020, g1, .cells #[.int .u16 p0.fID, .bool p0.fResponse, .bool p0.fAuthoritative, .bool p0.fTruncated, .bool p0.fDesired, .bool p0.fAvailable, .int .i64 p0.fOpcode, .int .i64 p0.fCode, .slice Ap0_0 p0.fQuestions.length cp0_0, .slice Ap0_1 p0.fAnswers.length cp0_1, .slice Ap0_2 p0.fAuthorities.length cp0_2, .slice Ap0_3 p0.fExtras.length cp0_3] 62 (0, 0)) :: H, R, φ⟩ (fun _ h => h) <| c_cond1 rfl rfl <| c_seq <| c_region <| g_v rfl r_assign <| g_nil <| d_then <| c_ret <| d_ret_then ?_
        replace hm := Option.some.inj hm
        subst hm
        refine d_retC () Try.results47 ?_ trivial (fun W h => ok_pre (H1 := [_, _]) (R1 := []) h (fun W hφ => hφ)) (.inr rfl)
        refine res_tmp <| res_nil ?_
        exact rfl
      ·
       replace hm := ite_t hm h8
       refine g_no rfl rfl rfl rfl rfl h8 <| g_no rfl rfl rfl rfl rfl h8 <| g_no rfl rfl rfl rfl rfl h8 <| g_no rfl rfl rfl rfl rfl h8 <| g_v rfl (r_pick1 rfl h8) <| g_v rfl r_move <| g_no rfl rfl rfl rfl rfl rfl <| g_no rfl rfl rfl rfl rfl rfl <| g_no rfl rfl rfl rfl rfl rfl <| g_no rfl rfl rfl rfl rfl rfl ?_
       refine g_no rfl rfl rfl rfl rfl rfl <| g_v rfl (r_pick1 rfl rfl) <| g_v rfl r_move <| g_no rfl rfl rfl rfl rfl rfl <| g_no rfl rfl rfl rfl rfl rfl <| g_no rfl rfl rfl rfl rfl rfl <| g_no rfl rfl rfl rfl rfl rfl <| g_no rfl rfl rfl rfl rfl rfl <| g_no rfl rfl rfl rfl rfl rfl <| g_no rfl rfl rfl rfl rfl rfl ?_
       refine g_v rfl (r_pick1 rfl rfl) <| g_nil <| d_then ?_
       refine c_flat [(2, .pointer (some ⟨g1, 0, none⟩)), (3, .pointer (some ⟨g2, 0, none⟩)), (71, .bool true)] ⟨rfl, rfl, rfl, trivial⟩ (fun u => ?_)
       refine c_sta ⟨w0, M, (100030, g2, .cells #[.int .u16 p1.fID, .bool p1.fResponse, .bool p1.fAuthoritative, .bool p1.fTruncated, .bool p1.fDesired, .bool p1.fAvailable, .int .i64 p1.fOpcode, .int .i64 p1.fCode, .slice Ap1_0 p1.fQuestions.length cp1_0, .slice Ap1_1 p1.fAnswers.length cp1_1, .slice Ap1_2 p1.fAuthorities.length cp1_2, .slice Ap1_3 p1.fExtras.length cp1_3] 62 (0, 0)) :: (100020, g1, .cells #[.int .u16 p0.fID, .bool p0.fResponse, .bool p0.fAuthoritative, .bool p0.fTruncated, .bool p0.fDesired, .bool p0.fAvailable, .int .i64 p0.fOpcode, .int .i64 p0.fCode, .slice Ap0_0 p0.fQuestions.length cp0_0, .slice Ap0_1 p0.fAnswers.length cp0_1, .slice Ap0_2 p0.fAuthorities.length cp0_2, .slice Ap0_3 p0.fExtras.length cp0_3] 62 (0, 0)) :: H, R, φ⟩ (fun _ h => h) <| c_cond1 rfl rfl <| c_seq <| c_region <| g_v rfl r_assign <| g_nil <| d_then <| c_ret <| d_ret_then ?_
       replace hm := Option.some.inj hm
       subst hm
       refine d_retC () Try.results47 ?_ trivial (fun W h => ok_pre (H1 := [_, _]) (R1 := []) h (fun W hφ => hφ)) (.inr rfl)
       refine res_tmp <| res_nil ?_
       exact rfl
     ·
      replace hm := ite_t hm h7
      refine g_no rfl rfl rfl rfl rfl h7 <| g_no rfl rfl rfl rfl rfl h7 <| g_no rfl rfl rfl rfl rfl h7 <| g_no rfl rfl rfl rfl rfl h7 <| g_v rfl (r_pick1 rfl h7) <| g_v rfl r_move <| g_no rfl rfl rfl rfl rfl rfl <| g_no rfl rfl rfl rfl rfl rfl <| g_no rfl rfl rfl rfl rfl rfl <| g_no rfl rfl rfl rfl rfl rfl ?_
      refine g_no rfl rfl rfl rfl rfl rfl <| g_v rfl (r_pick1 rfl rfl) <| g_v rfl r_move <| g_no rfl rfl rfl rfl rfl rfl <| g_no rfl rfl rfl rfl rfl rfl <| g_no rfl rfl rfl rfl rfl rfl <| g_no rfl rfl rfl rfl rfl rfl <| g_no rfl rfl rfl rfl rfl rfl <| g_v rfl (r_pick1 rfl rfl) <| g_v rfl r_move ?_
      refine g_no rfl rfl rfl rfl rfl rfl <| g_no rfl rfl rfl rfl rfl rfl <| g_no rfl rfl rfl rfl rfl rfl <| g_no rfl rfl rfl rfl rfl rfl <| g_no rfl rfl rfl rfl rfl rfl <| g_no rfl rfl rfl rfl rfl rfl <| g_no rfl rfl rfl rfl rfl rfl <| g_v rfl (r_pick1 rfl rfl) <| g_nil <| d_then ?_
      refine c_flat [(2, .pointer (some ⟨g1, 0, none⟩)), (3, .pointer (some ⟨g2, 0, none⟩)), (71, .bool true)] ⟨rfl, rfl, rfl, trivial⟩ (fun u => ?_)
      refine c_sta ⟨w0, M, (100030, g2, .cells #[.int .u16 p1.fID, .bool p1.fResponse, .bool p1.fAuthoritative, .bool p1.fTruncated, .bool p1.fDesired, .bool p1.fAvailable, .int .i64 p1.fOpcode, .int .i64 p1.fCode, .slice Ap1_0 p1.fQuestions.length cp1_0, .slice Ap1_1 p1.fAnswers.length cp1_1, .slice Ap1_2 p1.fAuthorities.length cp1_2, .slice Ap1_3 p1.fExtras.length cp1_3] 62 (0, 0)) :: (100020, g1, .cells #[.int .u16 p0.fID, .bool p0.fResponse, .bool p0.fAuthoritative, .bool p0.fTruncated, .bool p0.fDesired, .bool p0.fAvailable, .int .i64 p0.fOpcode, .int .i64 p0.fCode, .slice Ap0_0 p0.fQuestions.length cp0_0, .slice Ap0_1 p0.fAnswers.length cp0_1, .slice Ap0_2 p0.fAuthorities.length cp0_2, .slice Ap0_3 p0.fExtras.length cp0_3] 62 (0, 0)) :: H, R, φ⟩ (fun _ h => h) <| c_cond1 rfl rfl <| c_seq <| c_region <| g_v rfl r_assign <| g_nil <| d_then <| c_ret <| d_ret_then ?_
      replace hm := Option.some.inj hm
      subst hm
      refine d_retC () Try.results47 ?_ trivial (fun W h => ok_pre (H1 := [_, _]) (R1 := []) h (fun W hφ => hφ)) (.inr rfl)
      refine res_tmp <| res_nil ?_
      exact rfl
    ·
     replace hm := ite_t hm h6
     refine g_no rfl rfl rfl rfl rfl h6 <| g_no rfl rfl rfl rfl rfl h6 <| g_no rfl rfl rfl rfl rfl h6 <| g_no rfl rfl rfl rfl rfl h6 <| g_v rfl (r_pick1 rfl h6) <| g_v rfl r_move <| g_no rfl rfl rfl rfl rfl rfl <| g_no rfl rfl rfl rfl rfl rfl <| g_no rfl rfl rfl rfl rfl rfl <| g_no rfl rfl rfl rfl rfl rfl ?_
     refine g_no rfl rfl rfl rfl rfl rfl <| g_v rfl (r_pick1 rfl rfl) <| g_v rfl r_move <| g_no rfl rfl rfl rfl rfl rfl <| g_no rfl rfl rfl rfl rfl rfl <| g_no rfl rfl rfl rfl rfl rfl <| g_no rfl rfl rfl rfl rfl rfl <| g_no rfl rfl rfl rfl rfl rfl <| g_v rfl (r_pick1 rfl rfl) <| g_v rfl r_move ?_
     refine g_no rfl rfl rfl rfl rfl rfl <| g_no rfl rfl rfl rfl rfl rfl <| g_no rfl rfl rfl rfl rfl rfl <| g_no rfl rfl rfl rfl rfl rfl <| g_no rfl rfl rfl rfl rfl rfl <| g_v rfl (r_pick1 rfl rfl) <| g_v rfl r_move <| g_no rfl rfl rfl rfl rfl rfl <| g_no rfl rfl rfl rfl rfl rfl <| g_no rfl rfl rfl rfl rfl rfl ?_
     refine g_no rfl rfl rfl rfl rfl rfl <| g_no rfl rfl rfl rfl rfl rfl <| g_no rfl rfl rfl rfl rfl rfl <| g_no rfl rfl rfl rfl rfl rfl <| g_v rfl (r_pick1 rfl rfl) <| g_nil <| d_then ?_
     refine c_flat [(2, .pointer (some ⟨g1, 0, none⟩)), (3, .pointer (some ⟨g2, 0, none⟩)), (71, .bool true)] ⟨rfl, rfl, rfl, trivial⟩ (fun u => ?_)
     refine c_sta ⟨w0, M, (100030, g2, .cells #[.int .u16 p1.fID, .bool p1.fResponse, .bool p1.fAuthoritative, .bool p1.fTruncated, .bool p1.fDesired, .bool p1.fAvailable, .int .i64 p1.fOpcode, .int .i64 p1.fCode, .slice Ap1_0 p1.fQuestions.length cp1_0, .slice Ap1_1 p1.fAnswers.length cp1_1, .slice Ap1_2 p1.fAuthorities.length cp1_2, .slice Ap1_3 p1.fExtras.length cp1_3] 62 (0, 0)) :: (100020, g1, .cells #[.int .u16 p0.fID, .bool p0.fResponse, .bool p0.fAuthoritative, .bool p0.fTruncated, .bool p0.fDesired, .bool p0.fAvailable, .int .i64 p0.fOpcode, .int .i64 p0.fCode, .slice Ap0_0 p0.fQuestions.length cp0_0, .slice Ap0_1 p0.fAnswers.length cp0_1, .slice Ap0_2 p0.fAuthorities.length cp0_2, .slice Ap0_3 p0.fExtras.length cp0_3] 62 (0, 0)) :: H, R, φ⟩ (fun _ h => h) <| c_cond1 rfl rfl <| c_seq <| c_region <| g_v rfl r_assign <| g_nil <| d_then <| c_ret <| d_ret_then ?_
     replace hm := Option.some.inj hm
     subst hm
     refine d_retC () Try.results47 ?_ trivial (fun W h => ok_pre (H1 := [_, _]) (R1 := []) h (fun W hφ => hφ)) (.inr rfl)
     refine res_tmp <| res_nil ?_
     exact rfl
   ·
    replace hm := ite_t hm h5
    refine g_no rfl rfl rfl rfl rfl h5 <| g_no rfl rfl rfl rfl rfl h5 <| g_no rfl rfl rfl rfl rfl h5 <| g_no rfl rfl rfl rfl rfl h5 <| g_v rfl (r_pick1 rfl h5) <| g_v rfl r_move <| g_no rfl rfl rfl rfl rfl rfl <| g_no rfl rfl rfl rfl rfl rfl <| g_no rfl rfl rfl rfl rfl rfl <| g_no rfl rfl rfl rfl rfl rfl ?_
    refine g_no rfl rfl rfl rfl rfl rfl <| g_v rfl (r_pick1 rfl rfl) <| g_v rfl r_move <| g_no rfl rfl rfl rfl rfl rfl <| g_no rfl rfl rfl rfl rfl rfl <| g_no rfl rfl rfl rfl rfl rfl <| g_no rfl rfl rfl rfl rfl rfl <| g_no rfl rfl rfl rfl rfl rfl <| g_v rfl (r_pick1 rfl rfl) <| g_v rfl r_move ?_
    refine g_no rfl rfl rfl rfl rfl rfl <| g_no rfl rfl rfl rfl rfl rfl <| g_no rfl rfl rfl rfl rfl rfl <| g_no rfl rfl rfl rfl rfl rfl <| g_no rfl rfl rfl rfl rfl rfl <| g_v rfl (r_pick1 rfl rfl) <| g_v rfl r_move <| g_no rfl rfl rfl rfl rfl rfl <| g_no rfl rfl rfl rfl rfl rfl <| g_no rfl rfl rfl rfl rfl rfl ?_
    refine g_no rfl rfl rfl rfl rfl rfl <| g_no rfl rfl rfl rfl rfl rfl <| g_v rfl (r_pick1 rfl rfl) <| g_v rfl r_move <| g_no rfl rfl rfl rfl rfl rfl <| g_no rfl rfl rfl rfl rfl rfl <| g_no rfl rfl rfl rfl rfl rfl <| g_no rfl rfl rfl rfl rfl rfl <| g_no rfl rfl rfl rfl rfl rfl <| g_no rfl rfl rfl rfl rfl rfl ?_
    refine g_no rfl rfl rfl rfl rfl rfl <| g_v rfl (r_pick1 rfl rfl) <| g_nil <| d_then ?_
    refine c_flat [(2, .pointer (some ⟨g1, 0, none⟩)), (3, .pointer (some ⟨g2, 0, none⟩)), (71, .bool true)] ⟨rfl, rfl, rfl, trivial⟩ (fun u => ?_)
    refine c_sta ⟨w0, M, (100030, g2, .cells #[.int .u16 p1.fID, .bool p1.fResponse, .bool p1.fAuthoritative, .bool p1.fTruncated, .bool p1.fDesired, .bool p1.fAvailable, .int .i64 p1.fOpcode, .int .i64 p1.fCode, .slice Ap1_0 p1.fQuestions.length cp1_0, .slice Ap1_1 p1.fAnswers.length cp1_1, .slice Ap1_2 p1.fAuthorities.length cp1_2, .slice Ap1_3 p1.fExtras.length cp1_3] 62 (0, 0)) :: (100020, g1, .cells #[.int .u16 p0.fID, .bool p0.fResponse, .bool p0.fAuthoritative, .bool p0.fTruncated, .bool p0.fDesired, .bool p0.fAvailable, .int .i64 p0.fOpcode, .int .i64 p0.fCode, .slice Ap0_0 p0.fQuestions.length cp0_0, .slice Ap0_1 p0.fAnswers.length cp0_1, .slice Ap0_2 p0.fAuthorities.length cp0_2, .slice Ap0_3 p0.fExtras.length cp0_3] 62 (0, 0)) :: H, R, φ⟩ (fun _ h => h) <| c_cond1 rfl rfl <| c_seq <| c_region <| g_v rfl r_assign <| g_nil <| d_then <| c_ret <| d_ret_then ?_
    replace hm := Option.some.inj hm
    subst hm
    refine d_retC () Try.results47 ?_ trivial (fun W h => ok_pre (H1 := [_, _]) (R1 := []) h (fun W hφ => hφ)) (.inr rfl)
    refine res_tmp <| res_nil ?_
    exact rfl
  ·
   replace hm := ite_t hm h4
   refine g_no rfl rfl rfl rfl rfl h4 <| g_no rfl rfl rfl rfl rfl h4 <| g_no rfl rfl rfl rfl rfl h4 <| g_no rfl rfl rfl rfl rfl h4 <| g_v rfl (r_pick1 rfl h4) <| g_v rfl r_move <| g_no rfl rfl rfl rfl rfl rfl <| g_no rfl rfl rfl rfl rfl rfl <| g_no rfl rfl rfl rfl rfl rfl <| g_no rfl rfl rfl rfl rfl rfl ?_
   refine g_no rfl rfl rfl rfl rfl rfl <| g_v rfl (r_pick1 rfl rfl) <| g_v rfl r_move <| g_no rfl rfl rfl rfl rfl rfl <| g_no rfl rfl rfl rfl rfl rfl <| g_no rfl rfl rfl rfl rfl rfl <| g_no rfl rfl rfl rfl rfl rfl <| g_no rfl rfl rfl rfl rfl rfl <| g_v rfl (r_pick1 rfl rfl) <| g_v rfl r_move ?_
   refine g_no rfl rfl rfl rfl rfl rfl <| g_no rfl rfl rfl rfl rfl rfl <| g_no rfl rfl rfl rfl rfl rfl <| g_no rfl rfl rfl rfl rfl rfl <| g_no rfl rfl rfl rfl rfl rfl <| g_v rfl (r_pick1 rfl rfl) <| g_v rfl r_move <| g_no rfl rfl rfl rfl rfl rfl <| g_no rfl rfl rfl rfl rfl rfl <| g_no rfl rfl rfl rfl rfl rfl ?_
   refine g_no rfl rfl rfl rfl rfl rfl <| g_no rfl rfl rfl rfl rfl rfl <| g_v rfl (r_pick1 rfl rfl) <| g_v rfl r_move <| g_no rfl rfl rfl rfl rfl rfl <| g_no rfl rfl rfl rfl rfl rfl <| g_no rfl rfl rfl rfl rfl rfl <| g_no rfl rfl rfl rfl rfl rfl <| g_no rfl rfl rfl rfl rfl rfl <| g_v rfl (r_pick1 rfl rfl) ?_
   refine g_v rfl r_move <| g_no rfl rfl rfl rfl rfl rfl <| g_no rfl rfl rfl rfl rfl rfl <| g_no rfl rfl rfl rfl rfl rfl <| g_no rfl rfl rfl rfl rfl rfl <| g_no rfl rfl rfl rfl rfl rfl <| g_no rfl rfl rfl rfl rfl rfl <| g_no rfl rfl rfl rfl rfl rfl <| g_v rfl (r_pick1 rfl rfl) <| g_nil ?_
   refine d_then ?_
   refine c_flat [(2, .pointer (some ⟨g1, 0, none⟩)), (3, .pointer (some ⟨g2, 0, none⟩)), (71, .bool true)] ⟨rfl, rfl, rfl, trivial⟩ (fun u => ?_)
   refine c_sta ⟨w0, M, (100030, g2, .cells #[.int .u16 p1.fID, .bool p1.fResponse, .bool p1.fAuthoritative, .bool p1.fTruncated, .bool p1.fDesired, .bool p1.fAvailable, .int .i64 p1.fOpcode, .int .i64 p1.fCode, .slice Ap1_0 p1.fQuestions.length cp1_0, .slice Ap1_1 p1.fAnswers.length cp1_1, .slice Ap1_2 p1.fAuthorities.length cp1_2, .slice Ap1_3 p1.fExtras.length cp1_3] 62 (0, 0)) :: (100020, g1, .cells #[.int .u16 p0.fID, .bool p0.fResponse, .bool p0.fAuthoritative, .bool p0.fTruncated, .bool p0.fDesired, .bool p0.fAvailable, .int .i64 p0.fOpcode, .int .i64 p0.fCode, .slice Ap0_0 p0.fQuestions.length cp0_0, .slice Ap0_1 p0.fAnswers.length cp0_1, .slice Ap0_2 p0.fAuthorities.length cp0_2, .slice Ap0_3 p0.fExtras.length cp0_3] 62 (0, 0)) :: H, R, φ⟩ (fun _ h => h) <| c_cond1 rfl rfl <| c_seq <| c_region <| g_v rfl r_assign <| g_nil <| d_then <| c_ret <| d_ret_then ?_
   replace hm := Option.some.inj hm
   subst hm
   refine d_retC () Try.results47 ?_ trivial (fun W h => ok_pre (H1 := [_, _]) (R1 := []) h (fun W hφ => hφ)) (.inr rfl)
   refine res_tmp <| res_nil ?_
   exact rfl
 ·
  replace hm := ite_t hm (of_decide_eq_true h3)
  refine g_no rfl rfl rfl rfl rfl h3 <| g_no rfl rfl rfl rfl rfl h3 <| g_no rfl rfl rfl rfl rfl h3 <| g_no rfl rfl rfl rfl rfl h3 <| g_v rfl (r_pick1 rfl h3) <| g_v rfl r_move <| g_no rfl rfl rfl rfl rfl rfl <| g_no rfl rfl rfl rfl rfl rfl <| g_no rfl rfl rfl rfl rfl rfl <| g_no rfl rfl rfl rfl rfl rfl ?_
  refine g_no rfl rfl rfl rfl rfl rfl <| g_v rfl (r_pick1 rfl rfl) <| g_v rfl r_move <| g_no rfl rfl rfl rfl rfl rfl <| g_no rfl rfl rfl rfl rfl rfl <| g_no rfl rfl rfl rfl rfl rfl <| g_no rfl rfl rfl rfl rfl rfl <| g_no rfl rfl rfl rfl rfl rfl <| g_v rfl (r_pick1 rfl rfl) <| g_v rfl r_move ?_
  refine g_no rfl rfl rfl rfl rfl rfl <| g_no rfl rfl rfl rfl rfl rfl <| g_no rfl rfl rfl rfl rfl rfl <| g_no rfl rfl rfl rfl rfl rfl <| g_no rfl rfl rfl rfl rfl rfl <| g_v rfl (r_pick1 rfl rfl) <| g_v rfl r_move <| g_no rfl rfl rfl rfl rfl rfl <| g_no rfl rfl rfl rfl rfl rfl <| g_no rfl rfl rfl rfl rfl rfl ?_
  refine g_no rfl rfl rfl rfl rfl rfl <| g_no rfl rfl rfl rfl rfl rfl <| g_v rfl (r_pick1 rfl rfl) <| g_v rfl r_move <| g_no rfl rfl rfl rfl rfl rfl <| g_no rfl rfl rfl rfl rfl rfl <| g_no rfl rfl rfl rfl rfl rfl <| g_no rfl rfl rfl rfl rfl rfl <| g_no rfl rfl rfl rfl rfl rfl <| g_v rfl (r_pick1 rfl rfl) ?_
  refine g_v rfl r_move <| g_no rfl rfl rfl rfl rfl rfl <| g_no rfl rfl rfl rfl rfl rfl <| g_no rfl rfl rfl rfl rfl rfl <| g_no rfl rfl rfl rfl rfl rfl <| g_no rfl rfl rfl rfl rfl rfl <| g_v rfl (r_pick1 rfl rfl) <| g_v rfl r_move <| g_no rfl rfl rfl rfl rfl rfl <| g_no rfl rfl rfl rfl rfl rfl ?_
  refine g_no rfl rfl rfl rfl rfl rfl <| g_no rfl rfl rfl rfl rfl rfl <| g_no rfl rfl rfl rfl rfl rfl <| g_no rfl rfl rfl rfl rfl rfl <| g_no rfl rfl rfl rfl rfl rfl <| g_v rfl (r_pick1 rfl rfl) <| g_nil <| d_then ?_
  refine c_flat [(2, .pointer (some ⟨g1, 0, none⟩)), (3, .pointer (some ⟨g2, 0, none⟩)), (71, .bool true)] ⟨rfl, rfl, rfl, trivial⟩ (fun u => ?_)
  refine c_sta ⟨w0, M, (100030, g2, .cells #[.int .u16 p1.fID, .bool p1.fResponse, .bool p1.fAuthoritative, .bool p1.fTruncated, .bool p1.fDesired, .bool p1.fAvailable, .int .i64 p1.fOpcode, .int .i64 p1.fCode, .slice Ap1_0 p1.fQuestions.length cp1_0, .slice Ap1_1 p1.fAnswers.length cp1_1, .slice Ap1_2 p1.fAuthorities.length cp1_2, .slice Ap1_3 p1.fExtras.length cp1_3] 62 (0, 0)) :: (100020, g1, .cells #[.int .u16 p0.fID, .bool p0.fResponse, .bool p0.fAuthoritative, .bool p0.fTruncated, .bool p0.fDesired, .bool p0.fAvailable, .int .i64 p0.fOpcode, .int .i64 p0.fCode, .slice Ap0_0 p0.fQuestions.length cp0_0, .slice Ap0_1 p0.fAnswers.length cp0_1, .slice Ap0_2 p0.fAuthorities.length cp0_2, .slice Ap0_3 p0.fExtras.length cp0_3] 62 (0, 0)) :: H, R, φ⟩ (fun _ h => h) <| c_cond1 rfl rfl <| c_seq <| c_region <| g_v rfl r_assign <| g_nil <| d_then <| c_ret <| d_ret_then ?_
  replace hm := Option.some.inj hm
  subst hm
  refine d_retC () Try.results47 ?_ trivial (fun W h => ok_pre (H1 := [_, _]) (R1 := []) h (fun W hφ => hφ)) (.inr rfl)
  refine res_tmp <| res_nil ?_
  exact rfl
noncomputable def m_law06_MessageReads (p0 : ByteArray) : Option Bool :=
  (m_law06_awake).bind fun x1 =>
  (m_law06_short p0 5000).bind fun x3 =>
  (m_message_Read x3).bind fun (z21 : GMessage × Int) =>
  (m_ref06_Read x3).bind fun (z39 : GMessage × Int) =>
  (m_message_Head x3).bind fun (z57 : GMessage × Int) =>
  (m_ref06_Head x3).bind fun (z75 : GMessage × Int) =>
  (m_ref06_Same z21.1 z39.1).bind fun x77 =>
  (m_ref06_Same z57.1 z75.1).bind fun x79 =>
  if x1 = true then
    if x77 = true then
      if z21.2 = z39.2 then
        if x79 = true then
          some (decide (z57.2 = z75.2))
        else
          some false
      else
        some false
    else
      some false
  else
    some false
theorem c_law06_MessageReads {w0 : World} {M : Nat → Prop} {H : List (Nat × Nat × Obj)} {R : List (Nat × Row)} {φ : World → Prop} (p0 : ByteArray) (r : Bool) (hm : m_law06_MessageReads p0 = some r) :
    Cn Try.prog 11 #[.string p0] ⟨w0, M, H, R, φ⟩ (fun x : Unit => .bool r) (fun x => True) (fun x => ⟨w0, M, H, R, φ⟩) := by
 unfold m_law06_MessageReads at hm
 refine cn_intro (fn := Try.f11) (N := 60) Try.func11 rfl Try.ntmps11 rfl <| c_seq <| c_region <| g_v rfl r_assign <| g_nil <| d_then <| c_seq <| c_region ?_
 replace hm := bnd hm
 obtain ⟨x1, hx2, hm⟩ := hm
 refine g_cn ⟨w0, M, _, _, φ⟩ (fun _ h => h) Try.call38 rfl rfl (c_law06_awake  _ hx2) (fun _ _ => ?_)
 refine g_v rfl r_assign <| g_nil <| d_then <| c_seq <| c_region <| g_v rfl r_move ?_
 replace hm := bnd hm
 obtain ⟨x3, hx4, hm⟩ := hm
 refine g_cn ⟨w0, M, _, _, φ⟩ (fun _ h => h) Try.call42 rfl rfl (c_law06_short p0 5000 _ hx4) (fun _ _ => ?_)
 refine g_v rfl r_assign <| g_nil <| d_then <| c_seq <| c_region <| g_v rfl r_move ?_
 replace hm := bnd hm
 obtain ⟨⟨x5, x6⟩, hx7, hm⟩ := hm
 refine g_cn ⟨w0, M, _, _, φ⟩ (fun _ h => h) Try.call43 rfl rfl (c_message_Read x3 _ hx7) (fun ⟨A8, c9, A11, c12, A14, c15, A17, c18⟩ ⟨hc9, hc12, hc15, hc18⟩ => ?_)
 refine g_abs (fun φ20 q20' => ?_)
 have q20 : ∀ W, φ20 W → φ W := fun W h => (q20' W h).1
 have f10 := fun (W : World) (h : φ20 W) => (q20' W h).2.1
 have f13 := fun (W : World) (h : φ20 W) => (q20' W h).2.2.1
 have f16 := fun (W : World) (h : φ20 W) => (q20' W h).2.2.2.1
 have f19 := fun (W : World) (h : φ20 W) => (q20' W h).2.2.2.2
 refine g_v rfl r_move <| g_v rfl (r_extract rfl rfl) <| g_v rfl (r_extract rfl rfl) ?_
 refine g_e rfl (e_alloc 100040 Try.zeroValue62) (fun g22 _ => ?_)
 refine g_storeL (tag := 100040) rfl rfl rfl rfl Try.sizeOf62 rfl rfl <| g_v rfl r_assign <| g_nil <| d_then ?_
 refine c_flat [(0, .string x3), (3, .bool x1), (4, .pointer (some ⟨g22, 0, none⟩)), (5, .int .i64 x6)] ⟨rfl, rfl, rfl, rfl, trivial⟩ (fun u => ?_)
 refine c_sta ⟨w0, M, (100040, g22, .cells #[.int .u16 x5.fID, .bool x5.fResponse, .bool x5.fAuthoritative, .bool x5.fTruncated, .bool x5.fDesired, .bool x5.fAvailable, .int .i64 x5.fOpcode, .int .i64 x5.fCode, .slice A8 x5.fQuestions.length c9, .slice A11 x5.fAnswers.length c12, .slice A14 x5.fAuthorities.length c15, .slice A17 x5.fExtras.length c18] 62 (0, 0)) :: H, R, φ20⟩ (fun _ h => h) <| c_seq <| c_region <| g_v rfl r_move ?_
 replace hm := bnd hm
 obtain ⟨⟨x23, x24⟩, hx25, hm⟩ := hm
 refine g_cn ⟨w0, M, _, _, φ20⟩ (fun _ h => h) Try.call44 rfl rfl (c_ref06_Read x3 _ hx25) (fun ⟨A26, c27, A29, c30, A32, c33, A35, c36⟩ ⟨hc27, hc30, hc33, hc36⟩ => ?_)
 refine g_abs (fun φ38 q38' => ?_)
 have q38 : ∀ W, φ38 W → φ20 W := fun W h => (q38' W h).1
 have f28 := fun (W : World) (h : φ38 W) => (q38' W h).2.1
 have f31 := fun (W : World) (h : φ38 W) => (q38' W h).2.2.1
 have f34 := fun (W : World) (h : φ38 W) => (q38' W h).2.2.2.1
 have f37 := fun (W : World) (h : φ38 W) => (q38' W h).2.2.2.2
 refine g_v rfl r_move <| g_v rfl (r_extract rfl rfl) <| g_v rfl (r_extract rfl rfl) ?_
 refine g_e rfl (e_alloc 100060 Try.zeroValue62) (fun g40 _ => ?_)
 refine g_storeL (tag := 100060) rfl rfl rfl rfl Try.sizeOf62 rfl rfl <| g_v rfl r_assign <| g_nil <| d_then <| c_seq <| c_region <| g_v rfl r_move ?_
 replace hm := bnd hm
 obtain ⟨⟨x41, x42⟩, hx43, hm⟩ := hm
 refine g_cn ⟨w0, M, _, _, φ38⟩ (fun _ h => h) Try.call45 rfl rfl (c_message_Head x3 _ hx43) (fun ⟨A44, c45, A47, c48, A50, c51, A53, c54⟩ ⟨hc45, hc48, hc51, hc54⟩ => ?_)
 refine g_abs (fun φ56 q56' => ?_)
 have q56 : ∀ W, φ56 W → φ38 W := fun W h => (q56' W h).1
 have f46 := fun (W : World) (h : φ56 W) => (q56' W h).2.1
 have f49 := fun (W : World) (h : φ56 W) => (q56' W h).2.2.1
 have f52 := fun (W : World) (h : φ56 W) => (q56' W h).2.2.2.1
 have f55 := fun (W : World) (h : φ56 W) => (q56' W h).2.2.2.2
 refine g_v rfl r_move <| g_v rfl (r_extract rfl rfl) <| g_v rfl (r_extract rfl rfl) ?_
 refine g_e rfl (e_alloc 100080 Try.zeroValue62) (fun g58 _ => ?_)
 refine g_storeL (tag := 100080) rfl rfl rfl rfl Try.sizeOf62 rfl rfl <| g_v rfl r_assign <| g_nil <| d_then ?_
 refine c_flat [(0, .string x3), (3, .bool x1), (4, .pointer (some ⟨g22, 0, none⟩)), (5, .int .i64 x6), (6, .pointer (some ⟨g40, 0, none⟩)), (7, .int .i64 x24), (8, .pointer (some ⟨g58, 0, none⟩)), (9, .int .i64 x42)] ⟨rfl, rfl, rfl, rfl, rfl, rfl, rfl, rfl, trivial⟩ (fun u => ?_)
 refine c_sta ⟨w0, M, (100080, g58, .cells #[.int .u16 x41.fID, .bool x41.fResponse, .bool x41.fAuthoritative, .bool x41.fTruncated, .bool x41.fDesired, .bool x41.fAvailable, .int .i64 x41.fOpcode, .int .i64 x41.fCode, .slice A44 x41.fQuestions.length c45, .slice A47 x41.fAnswers.length c48, .slice A50 x41.fAuthorities.length c51, .slice A53 x41.fExtras.length c54] 62 (0, 0)) :: (100060, g40, .cells #[.int .u16 x23.fID, .bool x23.fResponse, .bool x23.fAuthoritative, .bool x23.fTruncated, .bool x23.fDesired, .bool x23.fAvailable, .int .i64 x23.fOpcode, .int .i64 x23.fCode, .slice A26 x23.fQuestions.length c27, .slice A29 x23.fAnswers.length c30, .slice A32 x23.fAuthorities.length c33, .slice A35 x23.fExtras.length c36] 62 (0, 0)) :: (100040, g22, .cells #[.int .u16 x5.fID, .bool x5.fResponse, .bool x5.fAuthoritative, .bool x5.fTruncated, .bool x5.fDesired, .bool x5.fAvailable, .int .i64 x5.fOpcode, .int .i64 x5.fCode, .slice A8 x5.fQuestions.length c9, .slice A11 x5.fAnswers.length c12, .slice A14 x5.fAuthorities.length c15, .slice A17 x5.fExtras.length c18] 62 (0, 0)) :: H, R, φ56⟩ (fun _ h => h) <| c_seq <| c_region <| g_v rfl r_move ?_
 replace hm := bnd hm
 obtain ⟨⟨x59, x60⟩, hx61, hm⟩ := hm
 refine g_cn ⟨w0, M, _, _, φ56⟩ (fun _ h => h) Try.call46 rfl rfl (c_ref06_Head x3 _ hx61) (fun ⟨A62, c63, A65, c66, A68, c69, A71, c72⟩ ⟨hc63, hc66, hc69, hc72⟩ => ?_)
 refine g_sta _ (fun W h => (ok_frontR (t := 2000) (t' := 100340) h rfl)) ?_
 refine g_abs (fun φ74 q74' => ?_)
 have q74 : ∀ W, φ74 W → φ56 W := fun W h => (q74' W h).1
 have f67 := fun (W : World) (h : φ74 W) => (q74' W h).2.1
 have f70 := fun (W : World) (h : φ74 W) => (q74' W h).2.2.1
 have f73 := fun (W : World) (h : φ74 W) => (q74' W h).2.2.2
 refine g_v rfl r_move <| g_v rfl (r_extract rfl rfl) <| g_v rfl (r_extract rfl rfl) ?_
 refine g_e rfl (e_alloc 100100 Try.zeroValue62) (fun g76 _ => ?_)
 refine g_storeL (tag := 100100) rfl rfl rfl rfl Try.sizeOf62 rfl rfl <| g_v rfl r_assign <| g_nil <| d_then <| c_seq <| c_region <| g_v rfl (r_loadA (tag := 100040) rfl rfl Try.isAgg62 Try.sizeOf62 rfl rfl) <| g_v rfl (r_loadA (tag := 100060) rfl rfl Try.isAgg62 Try.sizeOf62 rfl rfl) ?_
 replace hm := bnd hm
 obtain ⟨x77, hx78, hm⟩ := hm
 refine g_cn ⟨w0, M, _, _, φ74⟩ (fun _ h => h) Try.call47 rfl rfl (c_ref06_Same x5 A8 c9 hc9 (fun W hS => f10 W (q38 _ (q56 _ (q74 _ hS.now)))) A11 c12 hc12 (fun W hS => f13 W (q38 _ (q56 _ (q74 _ hS.now)))) A14 c15 hc15 (fun W hS => f16 W (q38 _ (q56 _ (q74 _ hS.now)))) A17 c18 hc18 (fun W hS => f19 W (q38 _ (q56 _ (q74 _ hS.now)))) x23 A26 c27 hc27 (fun W hS => f28 W (q56 _ (q74 _ hS.now))) A29 c30 hc30 (fun W hS => f31 W (q56 _ (q74 _ hS.now))) A32 c33 hc33 (fun W hS => f34 W (q56 _ (q74 _ hS.now))) A35 c36 hc36 (fun W hS => f37 W (q56 _ (q74 _ hS.now))) _ hx78) (fun _ _ => ?_)
 refine g_v rfl r_assign <| g_nil <| d_then ?_
 refine c_flat [(3, .bool x1), (5, .int .i64 x6), (7, .int .i64 x24), (8, .pointer (some ⟨g58, 0, none⟩)), (9, .int .i64 x42), (10, .pointer (some ⟨g76, 0, none⟩)), (11, .int .i64 x60), (12, .bool x77)] ⟨rfl, rfl, rfl, rfl, rfl, rfl, rfl, rfl, trivial⟩ (fun u => ?_)
 refine c_sta ⟨w0, M, (100100, g76, .cells #[.int .u16 x59.fID, .bool x59.fResponse, .bool x59.fAuthoritative, .bool x59.fTruncated, .bool x59.fDesired, .bool x59.fAvailable, .int .i64 x59.fOpcode, .int .i64 x59.fCode, .slice A62 x59.fQuestions.length c63, .slice A65 x59.fAnswers.length c66, .slice A68 x59.fAuthorities.length c69, .slice A71 x59.fExtras.length c72] 62 (0, 0)) :: (100080, g58, .cells #[.int .u16 x41.fID, .bool x41.fResponse, .bool x41.fAuthoritative, .bool x41.fTruncated, .bool x41.fDesired, .bool x41.fAvailable, .int .i64 x41.fOpcode, .int .i64 x41.fCode, .slice A44 x41.fQuestions.length c45, .slice A47 x41.fAnswers.length c48, .slice A50 x41.fAuthorities.length c51, .slice A53 x41.fExtras.length c54] 62 (0, 0)) :: (100060, g40, .cells #[.int .u16 x23.fID, .bool x23.fResponse, .bool x23.fAuthoritative, .bool x23.fTruncated, .bool x23.fDesired, .bool x23.fAvailable, .int .i64 x23.fOpcode, .int .i64 x23.fCode, .slice A26 x23.fQuestions.length c27, .slice A29 x23.fAnswers.length c30, .slice A32 x23.fAuthorities.length c33, .slice A35 x23.fExtras.length c36] 62 (0, 0)) :: (100040, g22, .cells #[.int .u16 x5.fID, .bool x5.fResponse, .bool x5.fAuthoritative, .bool x5.fTruncated, .bool x5.fDesired, .bool x5.fAvailable, .int .i64 x5.fOpcode, .int .i64 x5.fCode, .slice A8 x5.fQuestions.length c9, .slice A11 x5.fAnswers.length c12, .slice A14 x5.fAuthorities.length c15, .slice A17 x5.fExtras.length c18] 62 (0, 0)) :: H, (100340, ⟨.slice A62 x59.fQuestions.length c63, 74, 3, x59.fQuestions.length, x59.fQuestions.flatMap GQuestion.enc⟩) :: R, φ74⟩ (fun _ h => h) <| c_seq <| c_region <| g_v rfl (r_loadA (tag := 100080) rfl rfl Try.isAgg62 Try.sizeOf62 rfl rfl) <| g_v rfl (r_loadA (tag := 100100) rfl rfl Try.isAgg62 Try.sizeOf62 rfl rfl) ?_
 replace hm := bnd hm
 obtain ⟨x79, hx80, hm⟩ := hm
 refine g_cn ⟨w0, M, _, _, φ74⟩ (fun _ h => h) Try.call47 rfl rfl (c_ref06_Same x41 A44 c45 hc45 (fun W hS => f46 W (q74 _ hS.now)) A47 c48 hc48 (fun W hS => f49 W (q74 _ hS.now)) A50 c51 hc51 (fun W hS => f52 W (q74 _ hS.now)) A53 c54 hc54 (fun W hS => f55 W (q74 _ hS.now)) x59 A62 c63 hc63 (fun W hS => rowCl (tag := 100340) rfl W hS) A65 c66 hc66 (fun W hS => f67 W hS.now) A68 c69 hc69 (fun W hS => f70 W hS.now) A71 c72 hc72 (fun W hS => f73 W hS.now) _ hx80) (fun _ _ => ?_)
 refine g_v rfl r_assign <| g_nil <| d_then <| c_seq <| c_region <| g_v rfl r_move <| g_v rfl r_move ?_
 refine g_if rfl rfl rfl rfl rfl (fun h81 => ?_) (fun h81 => ?_)
 ·
  replace hm := ite_t hm h81
  refine g_v rfl r_move <| g_v rfl (r_pick1 rfl h81) <| g_v rfl r_move ?_
  refine g_if rfl rfl rfl rfl rfl (fun h82 => ?_) (fun h82 => ?_)
  ·
   replace hm := ite_t hm h82
   refine g_v rfl r_move <| g_do rfl rfl rfl rfl rfl h82 <| g_v rfl r_move <| g_do rfl rfl rfl rfl rfl h82 <| g_v rfl (r_eql rfl rfl) <| g_v rfl (r_pick1 rfl h82) <| g_v rfl r_move ?_
   refine g_if rfl rfl rfl rfl rfl (fun h83 => ?_) (fun h83 => ?_)
   ·
    replace hm := ite_t hm (of_decide_eq_true h83)
    refine g_v rfl r_move <| g_v rfl (r_pick1 rfl h83) <| g_v rfl r_move ?_
    refine g_if rfl rfl rfl rfl rfl (fun h84 => ?_) (fun h84 => ?_)
    ·
     replace hm := ite_t hm h84
     refine g_v rfl r_move <| g_do rfl rfl rfl rfl rfl h84 <| g_v rfl r_move <| g_do rfl rfl rfl rfl rfl h84 <| g_v rfl (r_eql rfl rfl) <| g_v rfl (r_pick1 rfl h84) <| g_v rfl r_assign <| g_nil <| d_then ?_
     refine c_flat [(2, .bool (decide (x42 = x60)))] ⟨rfl, trivial⟩ (fun u => ?_)
     refine c_ret ?_
     replace hm := Option.some.inj hm
     subst hm
     refine d_retC () Try.results11 ?_ trivial (fun W h => ok_pre (H1 := [_, _, _, _]) (R1 := [_]) h (fun W hφ => (q20 _ (q38 _ (q56 _ (q74 _ hφ)))))) (.inr rfl)
     refine res_tmp <| res_nil ?_
     exact rfl
    ·
     replace hm := ite_f hm (bool_nt h84)
     refine g_no rfl rfl rfl rfl rfl h84 <| g_no rfl rfl rfl rfl rfl h84 <| g_v rfl (r_pick0 rfl h84) <| g_v rfl r_assign <| g_nil <| d_then ?_
     refine c_flat [(2, .bool false)] ⟨rfl, trivial⟩ (fun u => ?_)
     refine c_ret ?_
     replace hm := Option.some.inj hm
     subst hm
     refine d_retC () Try.results11 ?_ trivial (fun W h => ok_pre (H1 := [_, _, _, _]) (R1 := [_]) h (fun W hφ => (q20 _ (q38 _ (q56 _ (q74 _ hφ)))))) (.inr rfl)
     refine res_tmp <| res_nil ?_
     exact rfl
   ·
    replace hm := ite_f hm (of_decide_eq_false h83)
    refine g_v rfl (r_pick0 rfl h83) <| g_v rfl r_move <| g_no rfl rfl rfl rfl rfl rfl <| g_no rfl rfl rfl rfl rfl rfl <| g_no rfl rfl rfl rfl rfl rfl <| g_v rfl (r_pick0 rfl rfl) <| g_v rfl r_assign <| g_nil <| d_then ?_
    refine c_flat [(2, .bool false)] ⟨rfl, trivial⟩ (fun u => ?_)
    refine c_ret ?_
    replace hm := Option.some.inj hm
    subst hm
    refine d_retC () Try.results11 ?_ trivial (fun W h => ok_pre (H1 := [_, _, _, _]) (R1 := [_]) h (fun W hφ => (q20 _ (q38 _ (q56 _ (q74 _ hφ)))))) (.inr rfl)
    refine res_tmp <| res_nil ?_
    exact rfl
  ·
   replace hm := ite_f hm (bool_nt h82)
   refine g_no rfl rfl rfl rfl rfl h82 <| g_no rfl rfl rfl rfl rfl h82 <| g_v rfl (r_pick0 rfl h82) <| g_v rfl r_move <| g_no rfl rfl rfl rfl rfl rfl <| g_v rfl (r_pick0 rfl rfl) <| g_v rfl r_move <| g_no rfl rfl rfl rfl rfl rfl <| g_no rfl rfl rfl rfl rfl rfl <| g_no rfl rfl rfl rfl rfl rfl ?_
   refine g_v rfl (r_pick0 rfl rfl) <| g_v rfl r_assign <| g_nil <| d_then ?_
   refine c_flat [(2, .bool false)] ⟨rfl, trivial⟩ (fun u => ?_)
   refine c_ret ?_
   replace hm := Option.some.inj hm
   subst hm
   refine d_retC () Try.results11 ?_ trivial (fun W h => ok_pre (H1 := [_, _, _, _]) (R1 := [_]) h (fun W hφ => (q20 _ (q38 _ (q56 _ (q74 _ hφ)))))) (.inr rfl)
   refine res_tmp <| res_nil ?_
   exact rfl
 ·
  replace hm := ite_f hm (bool_nt h81)
  refine g_v rfl (r_pick0 rfl h81) <| g_v rfl r_move <| g_no rfl rfl rfl rfl rfl rfl <| g_no rfl rfl rfl rfl rfl rfl <| g_no rfl rfl rfl rfl rfl rfl <| g_v rfl (r_pick0 rfl rfl) <| g_v rfl r_move <| g_no rfl rfl rfl rfl rfl rfl <| g_v rfl (r_pick0 rfl rfl) <| g_v rfl r_move ?_
  refine g_no rfl rfl rfl rfl rfl rfl <| g_no rfl rfl rfl rfl rfl rfl <| g_no rfl rfl rfl rfl rfl rfl <| g_v rfl (r_pick0 rfl rfl) <| g_v rfl r_assign <| g_nil <| d_then ?_
  refine c_flat [(2, .bool false)] ⟨rfl, trivial⟩ (fun u => ?_)
  refine c_ret ?_
  replace hm := Option.some.inj hm
  subst hm
  refine d_retC () Try.results11 ?_ trivial (fun W h => ok_pre (H1 := [_, _, _, _]) (R1 := [_]) h (fun W hφ => (q20 _ (q38 _ (q56 _ (q74 _ hφ)))))) (.inr rfl)
  refine res_tmp <| res_nil ?_
  exact rfl
end Go.Proofs.Ytpdhdpefdgndeaa
