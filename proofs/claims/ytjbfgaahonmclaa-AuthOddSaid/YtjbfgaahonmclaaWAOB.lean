import Derived.Test.YtjbfgaahonmclaaWAOA
set_option maxRecDepth 100000
set_option maxHeartbeats 4000000
set_option linter.unusedVariables false
set_option linter.unusedSimpArgs false
namespace Go.Proofs.Ytjbfgaahonmclaa
open Go.RowKit Go.Proofs.YtjbfgaahonmclaaW.PrintLast
noncomputable def m_auth_Answer_j1 (x79 : GMessage) (x100 : List GRR) (l232 : List GRR) : Option GMessage :=
  some (⟨x79.fID, x79.fResponse, x79.fAuthoritative, x79.fTruncated, x79.fDesired, x79.fAvailable, x79.fOpcode, x79.fCode, x79.fQuestions, x79.fAnswers, x100, l232⟩ : GMessage)
noncomputable def m_auth_Answer_j3 (i303 : Int) (l420 : List GRR) : Option (((List GRR) × Int) ⊕ (List GRR)) :=
  some (.inl (l420, w64 (i303 + 1)))
noncomputable def m_auth_Answer_s4 (x376 : List GRR) (l441 : List GRR) (i444 : Int) : Option (((List GRR) × Int) ⊕ (List GRR)) :=
  if i444 < (x376.length : Int) then
    (at_ x376 i444).bind fun x464 =>
    (m_slices_Contains_29 l441 x464).bind fun x469 =>
    if x469 = true then
      some (.inl (l441, w64 (i444 + 1)))
    else
      (app 40 l441 [x464]).bind fun l473 =>
      some (.inl (l473, w64 (i444 + 1)))
  else
    some (.inr l441)
noncomputable def m_auth_Answer_s2 (x100 : List GRR) (x69 : GZone) (l300 : List GRR) (i303 : Int) : Option (((List GRR) × Int) ⊕ (List GRR)) :=
  if i303 < (x100.length : Int) then
    (at_ x100 i303).bind fun x367 =>
    (m_record_Target x367).bind fun (z375 : ByteArray × Bool) =>
    (m_auth_zone_addresses (⟨x69⟩ : Gauth_zone) z375.1).bind fun x376 =>
    (loop (fun s => m_auth_Answer_s4 x376 s.1 s.2) (l300, 0)).bind fun e => m_auth_Answer_j3 i303 e
  else
    some (.inr l300)
noncomputable def m_auth_Answer_j6 (x79 : GMessage) (i511 : Int) (l512 : List GRR) (l516 : List GRR) : Option GMessage :=
  some (⟨x79.fID, x79.fResponse, true, x79.fTruncated, x79.fDesired, x79.fAvailable, x79.fOpcode, i511, x79.fQuestions, l512, l516, x79.fExtras⟩ : GMessage)
noncomputable def m_auth_Answer_j5 (x69 : GZone) (x41 : GQuestion) (x79 : GMessage) (l497 : List GRR) : Option GMessage :=
  if (l497.length : Int) = 0 then
    (m_auth_zone_of (⟨x69⟩ : Gauth_zone) x69.fApex 6).bind fun x524 =>
    (m_auth_There x69 x41.fName).bind fun x529 =>
    if x529 = true then
      m_auth_Answer_j6 x79 x79.fCode ([] : List GRR) x524
    else
      m_auth_Answer_j6 x79 3 ([] : List GRR) x524
  else
    m_auth_Answer_j6 x79 x79.fCode l497 x79.fAuthorities
noncomputable def m_auth_Answer (p0 : List GZone) (p1 : GMessage) : Option GMessage :=
  if p1.fResponse = true then
    (m_auth_reply p1 1).bind fun x565 =>
    some (⟨x565.fID, x565.fResponse, x565.fAuthoritative, x565.fTruncated, x565.fDesired, x565.fAvailable, x565.fOpcode, x565.fCode, ([] : List GQuestion), x565.fAnswers, x565.fAuthorities, x565.fExtras⟩ : GMessage)
  else
    if (p1.fQuestions.length : Int) ≠ 1 then
      (m_auth_reply p1 1).bind fun x5 =>
      some (⟨x5.fID, x5.fResponse, x5.fAuthoritative, x5.fTruncated, x5.fDesired, x5.fAvailable, x5.fOpcode, x5.fCode, ([] : List GQuestion), x5.fAnswers, x5.fAuthorities, x5.fExtras⟩ : GMessage)
    else
      if p1.fOpcode ≠ 0 then
        (m_auth_reply p1 4).bind fun x24 =>
        some x24
      else
        (at_ p1.fQuestions 0).bind fun x41 =>
        (m_auth_Find p0 x41.fName).bind fun (z49 : Int × Bool) =>
        if x41.fClass ≠ 1 then
          (m_auth_reply p1 5).bind fun x548 =>
          some x548
        else
          if z49.2 = true then
            (at_ p0 z49.1).bind fun x69 =>
            (m_auth_reply p1 0).bind fun x79 =>
            (m_auth_Below x69 x41.fName).bind fun (z98 : ByteArray × Bool) =>
            if z98.2 = true then
              (m_auth_zone_of (⟨x69⟩ : Gauth_zone) z98.1 2).bind fun x100 =>
              (loop (fun s => m_auth_Answer_s2 x100 x69 s.1 s.2) (x79.fExtras, 0)).bind fun e => m_auth_Answer_j1 x79 x100 e
            else
              (m_auth_zone_of (⟨x69⟩ : Gauth_zone) x41.fName x41.fType).bind fun x478 =>
              if (x478.length : Int) = 0 then
                (m_auth_zone_of (⟨x69⟩ : Gauth_zone) x41.fName 5).bind fun x537 =>
                (cutHi x537 (min (x537.length : Int) 1)).bind fun l545 =>
                m_auth_Answer_j5 x69 x41 x79 l545
              else
                m_auth_Answer_j5 x69 x41 x79 x478
          else
            (m_auth_reply p1 5).bind fun x52 =>
            some x52
theorem c_auth_Answer {w0 : World} {M : Nat → Prop} {H : List (Nat × Nat × Obj)} {R : List (Nat × Row)} {φ : World → Prop} (p0 : List GZone) (Ap0_0 : Option Addr) (cp0_0 : Nat) (psp0_0 : List GZoneP) (hcp0_0 : (DOk GZone.capP p0 psp0_0 ∧ p0.length ≤ cp0_0)) (fp0_0 : ∀ W, φ W → Cl W Ap0_0 ((p0.zip psp0_0).flatMap GZone.encP)) (fop0_0 : ∀ W, φ W → DOwn GZone.ownP p0 psp0_0 W) (p1 : GMessage) (Ap1_0 : Option Addr) (cp1_0 : Nat) (hcp1_0 : p1.fQuestions.length ≤ cp1_0) (fp1_0 : ∀ W, (Sta.mk w0 M H R φ).ok W → Cl W Ap1_0 (p1.fQuestions.flatMap GQuestion.enc)) (Ap1_1 : Option Addr) (cp1_1 : Nat) (hcp1_1 : p1.fAnswers.length ≤ cp1_1) (fp1_1 : ∀ W, (Sta.mk w0 M H R φ).ok W → Cl W Ap1_1 (p1.fAnswers.flatMap GRR.enc)) (Ap1_2 : Option Addr) (cp1_2 : Nat) (hcp1_2 : p1.fAuthorities.length ≤ cp1_2) (fp1_2 : ∀ W, (Sta.mk w0 M H R φ).ok W → Cl W Ap1_2 (p1.fAuthorities.flatMap GRR.enc)) (Ap1_3 : Option Addr) (cp1_3 : Nat) (hcp1_3 : p1.fExtras.length ≤ cp1_3) (fp1_3 : ∀ W, (Sta.mk w0 M H R φ).ok W → Cl W Ap1_3 (p1.fExtras.flatMap GRR.enc)) (r : GMessage) (hm : m_auth_Answer p0 p1 = some r) :
    Cn Try.prog 9 #[.slice Ap0_0 p0.length cp0_0, .agg #[.int .u16 p1.fID, .bool p1.fResponse, .bool p1.fAuthoritative, .bool p1.fTruncated, .bool p1.fDesired, .bool p1.fAvailable, .int .i64 p1.fOpcode, .int .i64 p1.fCode, .slice Ap1_0 p1.fQuestions.length cp1_0, .slice Ap1_1 p1.fAnswers.length cp1_1, .slice Ap1_2 p1.fAuthorities.length cp1_2, .slice Ap1_3 p1.fExtras.length cp1_3]] ⟨w0, M, H, R, φ⟩ (fun x : Option Addr × Nat × Option Addr × Nat × Option Addr × Nat × Option Addr × Nat => .agg #[.int .u16 r.fID, .bool r.fResponse, .bool r.fAuthoritative, .bool r.fTruncated, .bool r.fDesired, .bool r.fAvailable, .int .i64 r.fOpcode, .int .i64 r.fCode, .slice x.1 r.fQuestions.length x.2.1, .slice x.2.2.1 r.fAnswers.length x.2.2.2.1, .slice x.2.2.2.2.1 r.fAuthorities.length x.2.2.2.2.2.1, .slice x.2.2.2.2.2.2.1 r.fExtras.length x.2.2.2.2.2.2.2]) (fun x => r.fQuestions.length ≤ x.2.1 ∧ r.fAnswers.length ≤ x.2.2.2.1 ∧ r.fAuthorities.length ≤ x.2.2.2.2.2.1 ∧ r.fExtras.length ≤ x.2.2.2.2.2.2.2) (fun x => ⟨w0, M, H, R, fun W => φ W ∧ Cl W x.1 (r.fQuestions.flatMap GQuestion.enc) ∧ Cl W x.2.2.1 (r.fAnswers.flatMap GRR.enc) ∧ Cl W x.2.2.2.2.1 (r.fAuthorities.flatMap GRR.enc) ∧ Cl W x.2.2.2.2.2.2.1 (r.fExtras.flatMap GRR.enc)⟩) := by
 unfold m_auth_Answer at hm
 refine cn_intro (fn := Try.f9) (N := 154) Try.func9 rfl Try.ntmps9 rfl <| c_seq <| c_region ?_
 refine g_e rfl (e_box 100030 rfl) (fun g1 _ => ?_)
 refine g_e rfl (e_alloc 100040 Try.zeroValue26) (fun g2 _ => ?_)
 refine g_nil <| d_then <| c_seq <| c_block <| c_seq <| c_region <| g_v rfl (r_field (n := 1) Try.underlying26 rfl Try.sizeOf4 rfl rfl) <| g_v rfl (r_load (tag := 100030) rfl rfl rfl Try.isAgg4) <| g_v rfl r_move <| g_sta ⟨w0, M, (100040, g2, .cells #[.int .u16 0, .bool false, .bool false, .bool false, .bool false, .bool false, .int .i64 0, .int .i64 0, .slice none 0 0, .slice none 0 0, .slice none 0 0, .slice none 0 0] 26 (0, 0)) :: (100030, g1, .cells #[.int .u16 p1.fID, .bool p1.fResponse, .bool p1.fAuthoritative, .bool p1.fTruncated, .bool p1.fDesired, .bool p1.fAvailable, .int .i64 p1.fOpcode, .int .i64 p1.fCode, .slice Ap1_0 p1.fQuestions.length cp1_0, .slice Ap1_1 p1.fAnswers.length cp1_1, .slice Ap1_2 p1.fAuthorities.length cp1_2, .slice Ap1_3 p1.fExtras.length cp1_3] 26 (0, 0)) :: H, R, φ⟩ (fun _ h => h) ?_
 refine g_if rfl rfl rfl rfl rfl (fun h3 => ?_) (fun h3 => ?_)
 ·
  replace hm := ite_f hm (bool_nt h3)
  refine g_v rfl (r_field (n := 8) Try.underlying26 rfl Try.sizeOf23 rfl rfl) <| g_do rfl rfl rfl rfl rfl h3 <| g_v rfl (r_load (tag := 100030) rfl rfl rfl Try.isAgg23) <| g_do rfl rfl rfl rfl rfl h3 <| g_v rfl (r_lenL Try.underlying23 rfl) <| g_do rfl rfl rfl rfl rfl h3 <| g_v rfl (r_neq rfl rfl) <| g_v rfl (r_pick0 rfl h3) <| g_v rfl r_assign <| g_nil ?_
  refine d_then ?_
  refine c_flat [(0, .slice Ap0_0 p0.length cp0_0), (3, .pointer (some ⟨g1, 0, none⟩)), (4, .pointer (some ⟨g2, 0, none⟩)), (20, .bool (decide ((p1.fQuestions.length : Int) ≠ 1)))] ⟨rfl, rfl, rfl, rfl, trivial⟩ (fun u => ?_)
  refine c_cond rfl (fun h4 => ?_) (fun h4 => ?_)
  ·
   replace hm := ite_t hm (of_decide_eq_true h4)
   refine c_seq <| c_region <| g_v rfl (r_loadA (tag := 100030) rfl rfl Try.isAgg26 Try.sizeOf26 rfl rfl) ?_
   replace hm := bnd hm
   obtain ⟨x5, hx6, hm⟩ := hm
   refine g_cn ⟨w0, M, _, _, φ⟩ (fun _ h => h) Try.call25 rfl rfl (c_auth_reply p1 Ap1_0 cp1_0 hcp1_0 (fun W hS => fp1_0 W (ok_pre (H1 := [_, _]) (R1 := []) hS (fun W h => h))) Ap1_1 cp1_1 hcp1_1 (fun W hS => fp1_1 W (ok_pre (H1 := [_, _]) (R1 := []) hS (fun W h => h))) Ap1_2 cp1_2 hcp1_2 (fun W hS => fp1_2 W (ok_pre (H1 := [_, _]) (R1 := []) hS (fun W h => h))) Ap1_3 cp1_3 hcp1_3 (fun W hS => fp1_3 W (ok_pre (H1 := [_, _]) (R1 := []) hS (fun W h => h))) 1 _ hx6) (fun ⟨A7, c8, A10, c11, A13, c14, A16, c17⟩ ⟨hc8, hc11, hc14, hc17⟩ => ?_)
   refine g_sta _ (fun W h => (ok_frontR (t := 2003) (t' := 100303) h rfl)) ?_
   refine g_abs (fun φ19 q19' => ?_)
   have q19 : ∀ W, φ19 W → φ W := fun W h => (q19' W h).1
   have f9 := fun (W : World) (h : φ19 W) => (q19' W h).2.1
   have f12 := fun (W : World) (h : φ19 W) => (q19' W h).2.2.1
   have f15 := fun (W : World) (h : φ19 W) => (q19' W h).2.2.2
   refine g_e rfl (e_alloc 100050 Try.zeroValue26) (fun g20 _ => ?_)
   refine g_storeL (tag := 100050) rfl rfl rfl rfl Try.sizeOf26 rfl rfl <| g_nil <| d_then <| c_seq <| c_region <| g_v rfl (r_field (n := 8) Try.underlying26 rfl Try.sizeOf23 rfl rfl) <| g_storeL (tag := 100050) rfl rfl rfl rfl Try.sizeOf23 rfl rfl <| g_nil <| d_then <| c_seq ?_
   refine c_region <| g_v rfl (r_loadA (tag := 100050) rfl rfl Try.isAgg26 Try.sizeOf26 rfl rfl) <| g_storeL (tag := 100040) rfl rfl rfl rfl Try.sizeOf26 rfl rfl <| g_nil <| d_then <| c_ret <| d_ret_block <| d_ret_then ?_
   cases hm
   refine d_shut (tag := 100303) rfl (fun φ21 q21' => ?_)
   have q21 : ∀ W, φ21 W → φ19 W := fun W h => (q21' W h).1
   have f22 := fun (W : World) (h : φ21 W) => (q21' W h).2
   exact d_retC (none, 0, A10, c11, A13, c14, A16, c17) Try.results9 (res_agg (tag := 100040) rfl rfl Try.isAgg26 Try.sizeOf26 (res_nil rfl)) ⟨(Nat.le_refl 0), hc11, hc14, hc17⟩ (fun W h => ok_pre (H1 := [_, _, _]) (R1 := []) h (fun W hφ => ⟨(q19 _ (q21 _ hφ)), (fun W _ => Cl.nil _ _) W hφ, (fun W h => f12 W (q21 _ h)) W hφ, (fun W h => f15 W (q21 _ h)) W hφ, (fun W h => f22 W h) W hφ⟩)) (.inr rfl)
  replace hm := ite_f hm (of_decide_eq_false h4)
  refine c_seq <| c_region <| g_v rfl (r_field (n := 6) Try.underlying26 rfl Try.sizeOf3 rfl rfl) <| g_v rfl (r_load (tag := 100030) rfl rfl rfl Try.isAgg3) <| g_v rfl (r_neq rfl rfl) <| g_v rfl r_assign <| g_nil <| d_then ?_
  refine c_cond rfl (fun h23 => ?_) (fun h23 => ?_)
  ·
   replace hm := ite_t hm (of_decide_eq_true h23)
   refine c_seq <| c_region <| g_v rfl (r_loadA (tag := 100030) rfl rfl Try.isAgg26 Try.sizeOf26 rfl rfl) ?_
   replace hm := bnd hm
   obtain ⟨x24, hx25, hm⟩ := hm
   refine g_cn ⟨w0, M, _, _, φ⟩ (fun _ h => h) Try.call25 rfl rfl (c_auth_reply p1 Ap1_0 cp1_0 hcp1_0 (fun W hS => fp1_0 W (ok_pre (H1 := [_, _]) (R1 := []) hS (fun W h => h))) Ap1_1 cp1_1 hcp1_1 (fun W hS => fp1_1 W (ok_pre (H1 := [_, _]) (R1 := []) hS (fun W h => h))) Ap1_2 cp1_2 hcp1_2 (fun W hS => fp1_2 W (ok_pre (H1 := [_, _]) (R1 := []) hS (fun W h => h))) Ap1_3 cp1_3 hcp1_3 (fun W hS => fp1_3 W (ok_pre (H1 := [_, _]) (R1 := []) hS (fun W h => h))) 4 _ hx25) (fun ⟨A26, c27, A29, c30, A32, c33, A35, c36⟩ ⟨hc27, hc30, hc33, hc36⟩ => ?_)
   refine g_sta _ (fun W h => (ok_frontR (t := 2003) (t' := 100383) h rfl)) ?_
   refine g_abs (fun φ38 q38' => ?_)
   have q38 : ∀ W, φ38 W → φ W := fun W h => (q38' W h).1
   have f28 := fun (W : World) (h : φ38 W) => (q38' W h).2.1
   have f31 := fun (W : World) (h : φ38 W) => (q38' W h).2.2.1
   have f34 := fun (W : World) (h : φ38 W) => (q38' W h).2.2.2
   refine g_storeL (tag := 100040) rfl rfl rfl rfl Try.sizeOf26 rfl rfl <| g_nil <| d_then <| c_ret <| d_ret_block <| d_ret_then ?_
   cases hm
   refine d_shut (tag := 100383) rfl (fun φ39 q39' => ?_)
   have q39 : ∀ W, φ39 W → φ38 W := fun W h => (q39' W h).1
   have f40 := fun (W : World) (h : φ39 W) => (q39' W h).2
   exact d_retC (A26, c27, A29, c30, A32, c33, A35, c36) Try.results9 (res_agg (tag := 100040) rfl rfl Try.isAgg26 Try.sizeOf26 (res_nil rfl)) ⟨hc27, hc30, hc33, hc36⟩ (fun W h => ok_pre (H1 := [_, _]) (R1 := []) h (fun W hφ => ⟨(q38 _ (q39 _ hφ)), (fun W h => f28 W (q39 _ h)) W hφ, (fun W h => f31 W (q39 _ h)) W hφ, (fun W h => f34 W (q39 _ h)) W hφ, (fun W h => f40 W h) W hφ⟩)) (.inr rfl)
  replace hm := ite_f hm (of_decide_eq_false h23)
  refine c_skip <| d_normal_block <| d_then <| c_seq <| c_region <| g_v rfl (r_field (n := 8) Try.underlying26 rfl Try.sizeOf23 rfl rfl) <| g_v rfl (r_load (tag := 100030) rfl rfl rfl Try.isAgg23) ?_
  replace hm := bnd hm
  obtain ⟨x41, hx41, hm⟩ := hm
  refine g_know _ (fun W hS => cl_at (p := (Sta.mk w0 M H R φ).ok) (sz := 3) (fun _ => rfl) (by decide) (ok_pre (H1 := [_, _]) (R1 := []) hS (fun W h => h)) fp1_0 hx41) ?_
  rintro ⟨ad42, hA44, f43⟩
  refine g_v rfl (r_ix Try.underlying23 Try.sizeOf29 rfl hA44 rfl hx41) <| g_v rfl (r_ldA rfl Try.isAgg29 Try.sizeOf29 (fun W hS => (f43 W (ok_pre (H1 := [_, _]) (R1 := []) hS (fun W h => h))).take 3) rfl) ?_
  refine g_e rfl (e_alloc 100060 Try.zeroValue29) (fun g45 _ => ?_)
  refine g_storeL (tag := 100060) rfl rfl rfl rfl Try.sizeOf29 rfl rfl <| g_nil <| d_then ?_
  refine c_flat [(0, .slice Ap0_0 p0.length cp0_0), (3, .pointer (some ⟨g1, 0, none⟩)), (4, .pointer (some ⟨g2, 0, none⟩)), (6, .pointer (some ⟨g45, 0, none⟩))] ⟨rfl, rfl, rfl, rfl, trivial⟩ (fun u => ?_)
  refine c_sta ⟨w0, M, (100060, g45, .cells #[.string x41.fName, .int .u16 x41.fType, .int .u16 x41.fClass] 29 (0, 0)) :: (100040, g2, .cells #[.int .u16 0, .bool false, .bool false, .bool false, .bool false, .bool false, .int .i64 0, .int .i64 0, .slice none 0 0, .slice none 0 0, .slice none 0 0, .slice none 0 0] 26 (0, 0)) :: (100030, g1, .cells #[.int .u16 p1.fID, .bool p1.fResponse, .bool p1.fAuthoritative, .bool p1.fTruncated, .bool p1.fDesired, .bool p1.fAvailable, .int .i64 p1.fOpcode, .int .i64 p1.fCode, .slice Ap1_0 p1.fQuestions.length cp1_0, .slice Ap1_1 p1.fAnswers.length cp1_1, .slice Ap1_2 p1.fAuthorities.length cp1_2, .slice Ap1_3 p1.fExtras.length cp1_3] 26 (0, 0)) :: H, R, φ⟩ (fun _ h => h) <| c_seq <| c_region <| g_v rfl r_move <| g_v rfl (r_field (n := 0) Try.underlying29 rfl Try.sizeOf9 rfl rfl) <| g_v rfl (r_load (tag := 100060) rfl rfl rfl Try.isAgg9) ?_
  replace hm := bnd hm
  obtain ⟨⟨x46, x47⟩, hx48, hm⟩ := hm
  refine g_cn ⟨w0, M, _, _, φ⟩ (fun _ h => h) Try.call16 rfl rfl (c_auth_Find p0 Ap0_0 cp0_0 psp0_0 ⟨hcp0_0.1, hcp0_0.2⟩ (fun W h => fp0_0 W h) (fun W h => (fop0_0 W h)) x41.fName _ hx48) (fun _ _ => ?_)
  refine g_v rfl r_move <| g_v rfl (r_extract rfl rfl) <| g_v rfl (r_extract rfl rfl) <| g_v rfl r_assign <| g_v rfl r_assign <| g_nil <| d_then ?_
  refine c_flat [(0, .slice Ap0_0 p0.length cp0_0), (3, .pointer (some ⟨g1, 0, none⟩)), (4, .pointer (some ⟨g2, 0, none⟩)), (6, .pointer (some ⟨g45, 0, none⟩)), (7, .int .i64 x46), (8, .bool x47)] ⟨rfl, rfl, rfl, rfl, rfl, rfl, trivial⟩ (fun u => ?_)
  refine c_seq <| c_seq <| c_region <| g_v rfl (r_field (n := 2) Try.underlying29 rfl Try.sizeOf22 rfl rfl) <| g_v rfl (r_load (tag := 100060) rfl rfl rfl Try.isAgg22) <| g_v rfl (r_neq rfl rfl) <| g_v rfl r_move ?_
  refine g_if rfl rfl rfl rfl rfl (fun h50 => ?_) (fun h50 => ?_)
  ·
   replace hm := ite_f hm (of_decide_eq_false h50)
   refine g_v rfl r_move <| g_do rfl rfl rfl rfl rfl h50 <| g_v rfl (r_not rfl) <| g_v rfl (r_pick0 rfl h50) <| g_nil <| d_then ?_
   refine c_cond rfl (fun h51 => ?_) (fun h51 => ?_)
   ·
    have h51' : x47 = false := by revert h51; cases x47 <;> simp
    replace hm := ite_f hm (bool_nt h51')
    refine c_seq <| c_region <| g_v rfl (r_loadA (tag := 100030) rfl rfl Try.isAgg26 Try.sizeOf26 rfl rfl) ?_
    replace hm := bnd hm
    obtain ⟨x52, hx53, hm⟩ := hm
    refine g_cn ⟨w0, M, _, _, φ⟩ (fun _ h => h) Try.call25 rfl rfl (c_auth_reply p1 Ap1_0 cp1_0 hcp1_0 (fun W hS => fp1_0 W (ok_pre (H1 := [_, _, _]) (R1 := []) hS (fun W h => h))) Ap1_1 cp1_1 hcp1_1 (fun W hS => fp1_1 W (ok_pre (H1 := [_, _, _]) (R1 := []) hS (fun W h => h))) Ap1_2 cp1_2 hcp1_2 (fun W hS => fp1_2 W (ok_pre (H1 := [_, _, _]) (R1 := []) hS (fun W h => h))) Ap1_3 cp1_3 hcp1_3 (fun W hS => fp1_3 W (ok_pre (H1 := [_, _, _]) (R1 := []) hS (fun W h => h))) 5 _ hx53) (fun ⟨A54, c55, A57, c58, A60, c61, A63, c64⟩ ⟨hc55, hc58, hc61, hc64⟩ => ?_)
    refine g_sta _ (fun W h => (ok_frontR (t := 2003) (t' := 100583) h rfl)) ?_
    refine g_abs (fun φ66 q66' => ?_)
    have q66 : ∀ W, φ66 W → φ W := fun W h => (q66' W h).1
    have f56 := fun (W : World) (h : φ66 W) => (q66' W h).2.1
    have f59 := fun (W : World) (h : φ66 W) => (q66' W h).2.2.1
    have f62 := fun (W : World) (h : φ66 W) => (q66' W h).2.2.2
    refine g_storeL (tag := 100040) rfl rfl rfl rfl Try.sizeOf26 rfl rfl <| g_nil <| d_then ?_
    refine c_flat [(4, .pointer (some ⟨g2, 0, none⟩))] ⟨rfl, trivial⟩ (fun u => ?_)
    refine c_sta ⟨w0, M, (100060, g45, .cells #[.string x41.fName, .int .u16 x41.fType, .int .u16 x41.fClass] 29 (0, 0)) :: (100040, g2, .cells #[.int .u16 x52.fID, .bool x52.fResponse, .bool x52.fAuthoritative, .bool x52.fTruncated, .bool x52.fDesired, .bool x52.fAvailable, .int .i64 x52.fOpcode, .int .i64 x52.fCode, .slice A54 x52.fQuestions.length c55, .slice A57 x52.fAnswers.length c58, .slice A60 x52.fAuthorities.length c61, .slice A63 x52.fExtras.length c64] 26 (0, 0)) :: (100030, g1, .cells #[.int .u16 p1.fID, .bool p1.fResponse, .bool p1.fAuthoritative, .bool p1.fTruncated, .bool p1.fDesired, .bool p1.fAvailable, .int .i64 p1.fOpcode, .int .i64 p1.fCode, .slice Ap1_0 p1.fQuestions.length cp1_0, .slice Ap1_1 p1.fAnswers.length cp1_1, .slice Ap1_2 p1.fAuthorities.length cp1_2, .slice Ap1_3 p1.fExtras.length cp1_3] 26 (0, 0)) :: H, (100583, ⟨.slice A63 x52.fExtras.length c64, 42, 5, x52.fExtras.length, x52.fExtras.flatMap GRR.enc⟩) :: R, φ66⟩ (fun _ h => h) <| c_ret <| d_ret_then ?_
    cases hm
    refine d_shut (tag := 100583) rfl (fun φ67 q67' => ?_)
    have q67 : ∀ W, φ67 W → φ66 W := fun W h => (q67' W h).1
    have f68 := fun (W : World) (h : φ67 W) => (q67' W h).2
    exact d_retC (A54, c55, A57, c58, A60, c61, A63, c64) Try.results9 (res_agg (tag := 100040) rfl rfl Try.isAgg26 Try.sizeOf26 (res_nil rfl)) ⟨hc55, hc58, hc61, hc64⟩ (fun W h => ok_pre (H1 := [_, _, _]) (R1 := []) h (fun W hφ => ⟨(q66 _ (q67 _ hφ)), (fun W h => f56 W (q67 _ h)) W hφ, (fun W h => f59 W (q67 _ h)) W hφ, (fun W h => f62 W (q67 _ h)) W hφ, (fun W h => f68 W h) W hφ⟩)) (.inr rfl)
   have h51' : x47 = true := by revert h51; cases x47 <;> simp
   replace hm := ite_t hm h51'
   refine c_skip <| d_then <| c_seq <| c_region <| g_v rfl r_move <| g_v rfl r_move ?_
   replace hm := bnd hm
   obtain ⟨x69, hx69, hm⟩ := hm
   obtain ⟨pp73, hv74, hz75, hcp76⟩ := DOk.at_ hcp0_0.1 hx69
   refine g_know _ (fun W hS => cl_at (p := φ) (sz := 2) (fun _ => rfl) (by decide) hS.now fp0_0 hv74) ?_
   rintro ⟨ad70, hA72, f71⟩
   have f77 := fun (W : World) (h : φ W) => (fop0_0 W h _ hz75)
   refine g_v rfl (r_ix Try.underlying35 Try.sizeOf33 rfl hA72 rfl hx69) <| g_v rfl (r_ldA rfl Try.isAgg33 Try.sizeOf33 (fun W hS => (f71 W hS.now).take 2) rfl) <| g_v rfl (r_build _ rfl (bld60_18 _ _ _ _)) ?_
   refine g_e rfl (e_alloc 100090 Try.zeroValue60) (fun g78 _ => ?_)
   refine g_storeL (tag := 100090) rfl rfl rfl rfl Try.sizeOf60 rfl rfl <| g_nil <| d_then ?_
   refine c_flat [(3, .pointer (some ⟨g1, 0, none⟩)), (4, .pointer (some ⟨g2, 0, none⟩)), (6, .pointer (some ⟨g45, 0, none⟩)), (9, .pointer (some ⟨g78, 0, none⟩))] ⟨rfl, rfl, rfl, rfl, trivial⟩ (fun u => ?_)
   refine c_sta ⟨w0, M, (100090, g78, .cells #[.string x69.fApex, .slice pp73.pA0 x69.fRecords.length pp73.pC0] 60 (0, 0)) :: (100060, g45, .cells #[.string x41.fName, .int .u16 x41.fType, .int .u16 x41.fClass] 29 (0, 0)) :: (100040, g2, .cells #[.int .u16 0, .bool false, .bool false, .bool false, .bool false, .bool false, .int .i64 0, .int .i64 0, .slice none 0 0, .slice none 0 0, .slice none 0 0, .slice none 0 0] 26 (0, 0)) :: (100030, g1, .cells #[.int .u16 p1.fID, .bool p1.fResponse, .bool p1.fAuthoritative, .bool p1.fTruncated, .bool p1.fDesired, .bool p1.fAvailable, .int .i64 p1.fOpcode, .int .i64 p1.fCode, .slice Ap1_0 p1.fQuestions.length cp1_0, .slice Ap1_1 p1.fAnswers.length cp1_1, .slice Ap1_2 p1.fAuthorities.length cp1_2, .slice Ap1_3 p1.fExtras.length cp1_3] 26 (0, 0)) :: H, R, φ⟩ (fun _ h => h) <| c_seq <| c_region <| g_v rfl (r_loadA (tag := 100030) rfl rfl Try.isAgg26 Try.sizeOf26 rfl rfl) ?_
   replace hm := bnd hm
   obtain ⟨x79, hx80, hm⟩ := hm
   refine g_cn ⟨w0, M, _, _, φ⟩ (fun _ h => h) Try.call25 rfl rfl (c_auth_reply p1 Ap1_0 cp1_0 hcp1_0 (fun W hS => fp1_0 W (ok_pre (H1 := [_, _, _, _]) (R1 := []) hS (fun W h => h))) Ap1_1 cp1_1 hcp1_1 (fun W hS => fp1_1 W (ok_pre (H1 := [_, _, _, _]) (R1 := []) hS (fun W h => h))) Ap1_2 cp1_2 hcp1_2 (fun W hS => fp1_2 W (ok_pre (H1 := [_, _, _, _]) (R1 := []) hS (fun W h => h))) Ap1_3 cp1_3 hcp1_3 (fun W hS => fp1_3 W (ok_pre (H1 := [_, _, _, _]) (R1 := []) hS (fun W h => h))) 0 _ hx80) (fun ⟨A81, c82, A84, c85, A87, c88, A90, c91⟩ ⟨hc82, hc85, hc88, hc91⟩ => ?_)
   refine g_sta _ (fun W h => (ok_frontR (t := 2003) (t' := 100653) h rfl)) ?_
   refine g_abs (fun φ93 q93' => ?_)
   have q93 : ∀ W, φ93 W → φ W := fun W h => (q93' W h).1
   have f83 := fun (W : World) (h : φ93 W) => (q93' W h).2.1
   have f86 := fun (W : World) (h : φ93 W) => (q93' W h).2.2.1
   have f89 := fun (W : World) (h : φ93 W) => (q93' W h).2.2.2
   refine g_e rfl (e_alloc 100100 Try.zeroValue26) (fun g94 _ => ?_)
   refine g_storeL (tag := 100100) rfl rfl rfl rfl Try.sizeOf26 rfl rfl <| g_nil <| d_then <| c_seq <| c_region <| g_v rfl (r_field (n := 0) Try.underlying60 rfl Try.sizeOf33 rfl rfl) <| g_v rfl (r_loadA (tag := 100090) rfl rfl Try.isAgg33 Try.sizeOf33 rfl rfl) <| g_v rfl (r_field (n := 0) Try.underlying29 rfl Try.sizeOf9 rfl rfl) <| g_v rfl (r_load (tag := 100060) rfl rfl rfl Try.isAgg9) ?_
   replace hm := bnd hm
   obtain ⟨⟨x95, x96⟩, hx97, hm⟩ := hm
   refine g_cn ⟨w0, M, _, _, φ93⟩ (fun _ h => h) Try.call14 rfl rfl (c_auth_Below x69 pp73.pA0 pp73.pC0 hcp76 (fun W hS => f77 W (q93 _ hS.now)) x41.fName _ hx97) (fun _ _ => ?_)
   refine g_v rfl r_move <| g_v rfl (r_extract rfl rfl) <| g_v rfl (r_extract rfl rfl) <| g_v rfl r_assign <| g_v rfl r_assign <| g_nil <| d_then ?_
   refine c_flat [(4, .pointer (some ⟨g2, 0, none⟩)), (6, .pointer (some ⟨g45, 0, none⟩)), (9, .pointer (some ⟨g78, 0, none⟩)), (10, .pointer (some ⟨g94, 0, none⟩)), (11, .string x95), (12, .bool x96)] ⟨rfl, rfl, rfl, rfl, rfl, rfl, trivial⟩ (fun u => ?_)
   refine c_sta ⟨w0, M, (100100, g94, .cells #[.int .u16 x79.fID, .bool x79.fResponse, .bool x79.fAuthoritative, .bool x79.fTruncated, .bool x79.fDesired, .bool x79.fAvailable, .int .i64 x79.fOpcode, .int .i64 x79.fCode, .slice A81 x79.fQuestions.length c82, .slice A84 x79.fAnswers.length c85, .slice A87 x79.fAuthorities.length c88, .slice A90 x79.fExtras.length c91] 26 (0, 0)) :: (100090, g78, .cells #[.string x69.fApex, .slice pp73.pA0 x69.fRecords.length pp73.pC0] 60 (0, 0)) :: (100060, g45, .cells #[.string x41.fName, .int .u16 x41.fType, .int .u16 x41.fClass] 29 (0, 0)) :: (100040, g2, .cells #[.int .u16 0, .bool false, .bool false, .bool false, .bool false, .bool false, .int .i64 0, .int .i64 0, .slice none 0 0, .slice none 0 0, .slice none 0 0, .slice none 0 0] 26 (0, 0)) :: (100030, g1, .cells #[.int .u16 p1.fID, .bool p1.fResponse, .bool p1.fAuthoritative, .bool p1.fTruncated, .bool p1.fDesired, .bool p1.fAvailable, .int .i64 p1.fOpcode, .int .i64 p1.fCode, .slice Ap1_0 p1.fQuestions.length cp1_0, .slice Ap1_1 p1.fAnswers.length cp1_1, .slice Ap1_2 p1.fAuthorities.length cp1_2, .slice Ap1_3 p1.fExtras.length cp1_3] 26 (0, 0)) :: H, (100653, ⟨.slice A90 x79.fExtras.length c91, 42, 5, x79.fExtras.length, x79.fExtras.flatMap GRR.enc⟩) :: R, φ93⟩ (fun _ h => h) <| c_seq <| c_seq <| c_region <| g_v rfl r_move <| g_nil <| d_then ?_
   refine c_cond rfl (fun h99 => ?_) (fun h99 => ?_)
   ·
    replace hm := ite_t hm h99
    refine c_seq <| c_region <| g_v rfl (r_loadA (tag := 100090) rfl rfl Try.isAgg60 Try.sizeOf60 rfl rfl) <| g_v rfl r_move ?_
    replace hm := bnd hm
    obtain ⟨x100, hx101, hm⟩ := hm
    refine g_cn ⟨w0, M, _, _, φ93⟩ (fun _ h => h) Try.call26 rfl rfl (c_auth_zone_of (⟨x69⟩ : Gauth_zone) pp73.pA0 pp73.pC0 hcp76 (fun W hS => f77 W (q93 _ hS.now)) x95 2 _ hx101) (fun ⟨A102, c103⟩ hc103 => ?_)
    refine g_sta _ (fun W h => (ok_frontR (t := 2000) (t' := 100770) h rfl)) <| g_v rfl (r_field (n := 10) Try.underlying26 rfl Try.sizeOf24 rfl rfl) <| g_storeL (tag := 100100) rfl rfl rfl rfl Try.sizeOf24 rfl rfl <| g_nil <| d_then <| c_seq <| c_seq <| c_region <| g_v rfl (r_field (n := 10) Try.underlying26 rfl Try.sizeOf24 rfl rfl) <| g_v rfl (r_load (tag := 100100) rfl rfl rfl Try.isAgg24) ?_
    refine g_v rfl (r_lenL Try.underlying24 rfl) <| g_v rfl r_move <| g_nil <| d_then ?_
    refine c_flat [(4, .pointer (some ⟨g2, 0, none⟩)), (9, .pointer (some ⟨g78, 0, none⟩)), (10, .pointer (some ⟨g94, 0, none⟩)), (80, .slice A102 x100.length c103), (81, .int .i64 (x100.length : Int)), (82, .int .i64 0)] ⟨rfl, rfl, rfl, rfl, rfl, rfl, trivial⟩ (fun u => ?_)
    refine c_sta ⟨w0, M, (100100, g94, .cells #[.int .u16 x79.fID, .bool x79.fResponse, .bool x79.fAuthoritative, .bool x79.fTruncated, .bool x79.fDesired, .bool x79.fAvailable, .int .i64 x79.fOpcode, .int .i64 x79.fCode, .slice A81 x79.fQuestions.length c82, .slice A84 x79.fAnswers.length c85, .slice A102 x100.length c103, .slice A90 x79.fExtras.length c91] 26 (0, 0)) :: (100090, g78, .cells #[.string x69.fApex, .slice pp73.pA0 x69.fRecords.length pp73.pC0] 60 (0, 0)) :: (100060, g45, .cells #[.string x41.fName, .int .u16 x41.fType, .int .u16 x41.fClass] 29 (0, 0)) :: (100040, g2, .cells #[.int .u16 0, .bool false, .bool false, .bool false, .bool false, .bool false, .int .i64 0, .int .i64 0, .slice none 0 0, .slice none 0 0, .slice none 0 0, .slice none 0 0] 26 (0, 0)) :: (100030, g1, .cells #[.int .u16 p1.fID, .bool p1.fResponse, .bool p1.fAuthoritative, .bool p1.fTruncated, .bool p1.fDesired, .bool p1.fAvailable, .int .i64 p1.fOpcode, .int .i64 p1.fCode, .slice Ap1_0 p1.fQuestions.length cp1_0, .slice Ap1_1 p1.fAnswers.length cp1_1, .slice Ap1_2 p1.fAuthorities.length cp1_2, .slice Ap1_3 p1.fExtras.length cp1_3] 26 (0, 0)) :: H, (100770, ⟨.slice A102 x100.length c103, 42, 5, x100.length, x100.flatMap GRR.enc⟩) :: (100653, ⟨.slice A90 x79.fExtras.length c91, 42, 5, x79.fExtras.length, x79.fExtras.flatMap GRR.enc⟩) :: R, φ93⟩ (fun _ h => h) ?_
    refine c_cut (ι := (List GRR) × Option Addr × Nat) [4, 10] (fun ⟨l232, A233, c234⟩ => []) (fun ⟨l232, A233, c234⟩ => ⟨w0, M, (100100, g94, .cells #[.int .u16 x79.fID, .bool x79.fResponse, .bool x79.fAuthoritative, .bool x79.fTruncated, .bool x79.fDesired, .bool x79.fAvailable, .int .i64 x79.fOpcode, .int .i64 x79.fCode, .slice A81 x79.fQuestions.length c82, .slice A84 x79.fAnswers.length c85, .slice A102 x100.length c103, .slice A233 l232.length c234] 26 (0, 0)) :: (100040, g2, .cells #[.int .u16 0, .bool false, .bool false, .bool false, .bool false, .bool false, .int .i64 0, .int .i64 0, .slice none 0 0, .slice none 0 0, .slice none 0 0, .slice none 0 0] 26 (0, 0)) :: H, (100770, ⟨.slice A102 x100.length c103, 42, 5, x100.length, x100.flatMap GRR.enc⟩) :: (100653, ⟨.slice A233 l232.length c234, 42, 5, l232.length, l232.flatMap GRR.enc⟩) :: R, φ93⟩) (fun ⟨l232, A233, c234⟩ => m_auth_Answer_j1 x79 x100 l232 = some r ∧ l232.length ≤ c234) ?_ (fun ⟨l232, A233, c234⟩ u ⟨hm, hc234⟩ => ?_)
    ·
     refine c_block ?_
     replace hm := bnd hm
     obtain ⟨out2, hl2, hr2⟩ := hm
     obtain ⟨n365', hl2⟩ := loop_lp hl2
     refine c_loopU (ι := Nat × (List GRR) × Int × Option Addr × Nat) [4, 9, 10, 80, 81, 82] (fun ⟨n365, l300, i303, A301, c302⟩ => [(82, .int .i64 i303)]) (fun ⟨n365, l300, i303, A301, c302⟩ => ⟨w0, M, (100100, g94, .cells #[.int .u16 x79.fID, .bool x79.fResponse, .bool x79.fAuthoritative, .bool x79.fTruncated, .bool x79.fDesired, .bool x79.fAvailable, .int .i64 x79.fOpcode, .int .i64 x79.fCode, .slice A81 x79.fQuestions.length c82, .slice A84 x79.fAnswers.length c85, .slice A102 x100.length c103, .slice A301 l300.length c302] 26 (0, 0)) :: (100090, g78, .cells #[.string x69.fApex, .slice pp73.pA0 x69.fRecords.length pp73.pC0] 60 (0, 0)) :: (100040, g2, .cells #[.int .u16 0, .bool false, .bool false, .bool false, .bool false, .bool false, .int .i64 0, .int .i64 0, .slice none 0 0, .slice none 0 0, .slice none 0 0, .slice none 0 0] 26 (0, 0)) :: H, (100770, ⟨.slice A102 x100.length c103, 42, 5, x100.length, x100.flatMap GRR.enc⟩) :: (100653, ⟨.slice A301 l300.length c302, 42, 5, l300.length, l300.flatMap GRR.enc⟩) :: R, φ93⟩) (fun ⟨n365, l300, i303, A301, c302⟩ => Lp (fun s => m_auth_Answer_s2 x100 x69 s.1 s.2) n365 (l300, i303) out2 ∧ l300.length ≤ c302) (fun ⟨n365, l300, i303, A301, c302⟩ => n365) (n365', x79.fExtras, 0, A90, c91) ⟨hl2, hc91⟩ ⟨rfl, rfl, rfl, rfl, rfl, rfl, trivial⟩ (fun W h => ((h.dropH (t := 100060) rfl).dropH (t := 100030) rfl).phi (fun W hφ => hφ)) (fun ⟨n365, l300, i303, A301, c302⟩ u ⟨hlp, hc302⟩ => ?_)
     obtain ⟨o2, hm, hnx2⟩ := lp_step hlp
     clear hlp
     replace hm : m_auth_Answer_s2 x100 x69 l300 i303 = some o2 := hm
     unfold m_auth_Answer_s2 at hm
     refine c_flat [(4, .pointer (some ⟨g2, 0, none⟩)), (9, .pointer (some ⟨g78, 0, none⟩)), (10, .pointer (some ⟨g94, 0, none⟩)), (80, .slice A102 x100.length c103), (81, .int .i64 (x100.length : Int)), (82, .int .i64 i303)] ⟨rfl, rfl, rfl, rfl, rfl, rfl, trivial⟩ (fun u => ?_)
     refine c_sta ⟨w0, M, (100100, g94, .cells #[.int .u16 x79.fID, .bool x79.fResponse, .bool x79.fAuthoritative, .bool x79.fTruncated, .bool x79.fDesired, .bool x79.fAvailable, .int .i64 x79.fOpcode, .int .i64 x79.fCode, .slice A81 x79.fQuestions.length c82, .slice A84 x79.fAnswers.length c85, .slice A102 x100.length c103, .slice A301 l300.length c302] 26 (0, 0)) :: (100090, g78, .cells #[.string x69.fApex, .slice pp73.pA0 x69.fRecords.length pp73.pC0] 60 (0, 0)) :: (100040, g2, .cells #[.int .u16 0, .bool false, .bool false, .bool false, .bool false, .bool false, .int .i64 0, .int .i64 0, .slice none 0 0, .slice none 0 0, .slice none 0 0, .slice none 0 0] 26 (0, 0)) :: H, (100770, ⟨.slice A102 x100.length c103, 42, 5, x100.length, x100.flatMap GRR.enc⟩) :: (100653, ⟨.slice A301 l300.length c302, 42, 5, l300.length, l300.flatMap GRR.enc⟩) :: R, φ93⟩ (fun _ h => h) <| c_seq <| c_region <| g_v rfl (r_lss rfl rfl) <| g_nil <| d_then <| c_seq ?_
     refine c_cond rfl (fun h366 => ?_) (fun h366 => ?_)
     ·
      replace hm := ite_t hm (of_decide_eq_true h366)
      refine c_skip <| d_then <| c_seq <| c_block <| c_seq <| c_region ?_
      replace hm := bnd hm
      obtain ⟨x367, hx367, hm⟩ := hm
      refine g_know _ (fun W hS => cl_at (p := (Sta.ok ⟨w0, M, (100100, g94, .cells #[.int .u16 x79.fID, .bool x79.fResponse, .bool x79.fAuthoritative, .bool x79.fTruncated, .bool x79.fDesired, .bool x79.fAvailable, .int .i64 x79.fOpcode, .int .i64 x79.fCode, .slice A81 x79.fQuestions.length c82, .slice A84 x79.fAnswers.length c85, .slice A102 x100.length c103, .slice A301 l300.length c302] 26 (0, 0)) :: (100090, g78, .cells #[.string x69.fApex, .slice pp73.pA0 x69.fRecords.length pp73.pC0] 60 (0, 0)) :: (100040, g2, .cells #[.int .u16 0, .bool false, .bool false, .bool false, .bool false, .bool false, .int .i64 0, .int .i64 0, .slice none 0 0, .slice none 0 0, .slice none 0 0, .slice none 0 0] 26 (0, 0)) :: H, (100770, ⟨.slice A102 x100.length c103, 42, 5, x100.length, x100.flatMap GRR.enc⟩) :: (100653, ⟨.slice A301 l300.length c302, 42, 5, l300.length, l300.flatMap GRR.enc⟩) :: R, φ93⟩)) (sz := 5) (fun _ => rfl) (by decide) hS (fun W hS => rowCl (S := ⟨w0, M, (100100, g94, .cells #[.int .u16 x79.fID, .bool x79.fResponse, .bool x79.fAuthoritative, .bool x79.fTruncated, .bool x79.fDesired, .bool x79.fAvailable, .int .i64 x79.fOpcode, .int .i64 x79.fCode, .slice A81 x79.fQuestions.length c82, .slice A84 x79.fAnswers.length c85, .slice A102 x100.length c103, .slice A301 l300.length c302] 26 (0, 0)) :: (100090, g78, .cells #[.string x69.fApex, .slice pp73.pA0 x69.fRecords.length pp73.pC0] 60 (0, 0)) :: (100040, g2, .cells #[.int .u16 0, .bool false, .bool false, .bool false, .bool false, .bool false, .int .i64 0, .int .i64 0, .slice none 0 0, .slice none 0 0, .slice none 0 0, .slice none 0 0] 26 (0, 0)) :: H, (100770, ⟨.slice A102 x100.length c103, 42, 5, x100.length, x100.flatMap GRR.enc⟩) :: (100653, ⟨.slice A301 l300.length c302, 42, 5, l300.length, l300.flatMap GRR.enc⟩) :: R, φ93⟩) (tag := 100770) rfl W hS) hx367) ?_
      rintro ⟨ad368, hA370, f369⟩
      refine g_v rfl (r_ix Try.underlying24 Try.sizeOf42 rfl hA370 rfl hx367) <| g_v rfl (r_ldA rfl Try.isAgg42 Try.sizeOf42 (fun W hS => (f369 W hS).take 5) rfl) ?_
      refine g_e rfl (e_alloc 100140 Try.zeroValue42) (fun g371 _ => ?_)
      refine g_storeL (tag := 100140) rfl rfl rfl rfl Try.sizeOf42 rfl rfl <| g_nil <| d_then <| c_seq <| c_region <| g_v rfl (r_loadA (tag := 100140) rfl rfl Try.isAgg42 Try.sizeOf42 rfl rfl) ?_
      replace hm := bnd hm
      obtain ⟨⟨x372, x373⟩, hx374, hm⟩ := hm
      refine g_cn ⟨w0, M, _, _, φ93⟩ (fun _ h => h) Try.call27 rfl rfl (c_record_Target x367 _ hx374) (fun _ _ => ?_)
      refine g_v rfl r_move <| g_v rfl (r_extract rfl rfl) <| g_v rfl (r_extract rfl rfl) <| g_v rfl r_assign <| g_v rfl r_assign <| g_nil <| d_then ?_
      refine c_flat [(4, .pointer (some ⟨g2, 0, none⟩)), (9, .pointer (some ⟨g78, 0, none⟩)), (10, .pointer (some ⟨g94, 0, none⟩)), (15, .string x372), (80, .slice A102 x100.length c103), (81, .int .i64 (x100.length : Int)), (82, .int .i64 i303)] ⟨rfl, rfl, rfl, rfl, rfl, rfl, rfl, trivial⟩ (fun u => ?_)
      refine c_sta ⟨w0, M, (100140, g371, .cells #[.string x367.fName, .int .u16 x367.fType, .int .u16 x367.fClass, .int .u32 x367.fTTL, .string x367.fData] 42 (0, 0)) :: (100100, g94, .cells #[.int .u16 x79.fID, .bool x79.fResponse, .bool x79.fAuthoritative, .bool x79.fTruncated, .bool x79.fDesired, .bool x79.fAvailable, .int .i64 x79.fOpcode, .int .i64 x79.fCode, .slice A81 x79.fQuestions.length c82, .slice A84 x79.fAnswers.length c85, .slice A102 x100.length c103, .slice A301 l300.length c302] 26 (0, 0)) :: (100090, g78, .cells #[.string x69.fApex, .slice pp73.pA0 x69.fRecords.length pp73.pC0] 60 (0, 0)) :: (100040, g2, .cells #[.int .u16 0, .bool false, .bool false, .bool false, .bool false, .bool false, .int .i64 0, .int .i64 0, .slice none 0 0, .slice none 0 0, .slice none 0 0, .slice none 0 0] 26 (0, 0)) :: H, (100770, ⟨.slice A102 x100.length c103, 42, 5, x100.length, x100.flatMap GRR.enc⟩) :: (100653, ⟨.slice A301 l300.length c302, 42, 5, l300.length, l300.flatMap GRR.enc⟩) :: R, φ93⟩ (fun _ h => h) <| c_seq <| c_region <| g_v rfl (r_loadA (tag := 100090) rfl rfl Try.isAgg60 Try.sizeOf60 rfl rfl) <| g_v rfl r_move ?_
      replace hm := bnd hm
      obtain ⟨x376, hx377, hm⟩ := hm
      refine g_cn ⟨w0, M, _, _, φ93⟩ (fun _ h => h) Try.call28 rfl rfl (c_auth_zone_addresses (⟨x69⟩ : Gauth_zone) pp73.pA0 pp73.pC0 hcp76 (fun W hS => f77 W (q93 _ hS.now)) x372 _ hx377) (fun ⟨A378, c379⟩ hc379 => ?_)
      refine g_sta _ (fun W h => (ok_frontR (t := 2000) (t' := 100930) h rfl)) <| g_v rfl (r_lenL Try.underlying24 rfl) <| g_v rfl r_move <| g_nil <| d_then ?_
      refine c_cut (ι := (List GRR) × Option Addr × Nat) [4, 9, 10, 80, 81, 82] (fun ⟨l420, A421, c422⟩ => []) (fun ⟨l420, A421, c422⟩ => ⟨w0, M, (100100, g94, .cells #[.int .u16 x79.fID, .bool x79.fResponse, .bool x79.fAuthoritative, .bool x79.fTruncated, .bool x79.fDesired, .bool x79.fAvailable, .int .i64 x79.fOpcode, .int .i64 x79.fCode, .slice A81 x79.fQuestions.length c82, .slice A84 x79.fAnswers.length c85, .slice A102 x100.length c103, .slice A421 l420.length c422] 26 (0, 0)) :: (100090, g78, .cells #[.string x69.fApex, .slice pp73.pA0 x69.fRecords.length pp73.pC0] 60 (0, 0)) :: (100040, g2, .cells #[.int .u16 0, .bool false, .bool false, .bool false, .bool false, .bool false, .int .i64 0, .int .i64 0, .slice none 0 0, .slice none 0 0, .slice none 0 0, .slice none 0 0] 26 (0, 0)) :: H, (100770, ⟨.slice A102 x100.length c103, 42, 5, x100.length, x100.flatMap GRR.enc⟩) :: (100653, ⟨.slice A421 l420.length c422, 42, 5, l420.length, l420.flatMap GRR.enc⟩) :: R, φ93⟩) (fun ⟨l420, A421, c422⟩ => m_auth_Answer_j3 i303 l420 = some o2 ∧ l420.length ≤ c422) ?_ (fun ⟨l420, A421, c422⟩ u ⟨hm, hc422⟩ => ?_)
      ·
       refine c_block ?_
       replace hm := bnd hm
       obtain ⟨out4, hl4, hr4⟩ := hm
       obtain ⟨n462', hl4⟩ := loop_lp hl4
       refine c_loopU (ι := Nat × (List GRR) × Int × Option Addr × Nat) [4, 9, 10, 80, 81, 82, 93, 94, 95] (fun ⟨n462, l441, i444, A442, c443⟩ => [(95, .int .i64 i444)]) (fun ⟨n462, l441, i444, A442, c443⟩ => ⟨w0, M, (100100, g94, .cells #[.int .u16 x79.fID, .bool x79.fResponse, .bool x79.fAuthoritative, .bool x79.fTruncated, .bool x79.fDesired, .bool x79.fAvailable, .int .i64 x79.fOpcode, .int .i64 x79.fCode, .slice A81 x79.fQuestions.length c82, .slice A84 x79.fAnswers.length c85, .slice A102 x100.length c103, .slice A442 l441.length c443] 26 (0, 0)) :: (100090, g78, .cells #[.string x69.fApex, .slice pp73.pA0 x69.fRecords.length pp73.pC0] 60 (0, 0)) :: (100040, g2, .cells #[.int .u16 0, .bool false, .bool false, .bool false, .bool false, .bool false, .int .i64 0, .int .i64 0, .slice none 0 0, .slice none 0 0, .slice none 0 0, .slice none 0 0] 26 (0, 0)) :: H, (100930, ⟨.slice A378 x376.length c379, 42, 5, x376.length, x376.flatMap GRR.enc⟩) :: (100770, ⟨.slice A102 x100.length c103, 42, 5, x100.length, x100.flatMap GRR.enc⟩) :: (100653, ⟨.slice A442 l441.length c443, 42, 5, l441.length, l441.flatMap GRR.enc⟩) :: R, φ93⟩) (fun ⟨n462, l441, i444, A442, c443⟩ => Lp (fun s => m_auth_Answer_s4 x376 s.1 s.2) n462 (l441, i444) out4 ∧ l441.length ≤ c443) (fun ⟨n462, l441, i444, A442, c443⟩ => n462) (n462', l300, 0, A301, c302) ⟨hl4, hc302⟩ ⟨rfl, rfl, rfl, rfl, rfl, rfl, rfl, rfl, rfl, trivial⟩ (fun W h => (h.dropH (t := 100140) rfl).phi (fun W hφ => hφ)) (fun ⟨n462, l441, i444, A442, c443⟩ u ⟨hlp, hc443⟩ => ?_)
       obtain ⟨o4, hm, hnx4⟩ := lp_step hlp
       clear hlp
       replace hm : m_auth_Answer_s4 x376 l441 i444 = some o4 := hm
       unfold m_auth_Answer_s4 at hm
       refine c_flat [(4, .pointer (some ⟨g2, 0, none⟩)), (9, .pointer (some ⟨g78, 0, none⟩)), (10, .pointer (some ⟨g94, 0, none⟩)), (80, .slice A102 x100.length c103), (81, .int .i64 (x100.length : Int)), (82, .int .i64 i303), (93, .slice A378 x376.length c379), (94, .int .i64 (x376.length : Int)), (95, .int .i64 i444)] ⟨rfl, rfl, rfl, rfl, rfl, rfl, rfl, rfl, rfl, trivial⟩ (fun u => ?_)
       refine c_sta ⟨w0, M, (100100, g94, .cells #[.int .u16 x79.fID, .bool x79.fResponse, .bool x79.fAuthoritative, .bool x79.fTruncated, .bool x79.fDesired, .bool x79.fAvailable, .int .i64 x79.fOpcode, .int .i64 x79.fCode, .slice A81 x79.fQuestions.length c82, .slice A84 x79.fAnswers.length c85, .slice A102 x100.length c103, .slice A442 l441.length c443] 26 (0, 0)) :: (100090, g78, .cells #[.string x69.fApex, .slice pp73.pA0 x69.fRecords.length pp73.pC0] 60 (0, 0)) :: (100040, g2, .cells #[.int .u16 0, .bool false, .bool false, .bool false, .bool false, .bool false, .int .i64 0, .int .i64 0, .slice none 0 0, .slice none 0 0, .slice none 0 0, .slice none 0 0] 26 (0, 0)) :: H, (100930, ⟨.slice A378 x376.length c379, 42, 5, x376.length, x376.flatMap GRR.enc⟩) :: (100770, ⟨.slice A102 x100.length c103, 42, 5, x100.length, x100.flatMap GRR.enc⟩) :: (100653, ⟨.slice A442 l441.length c443, 42, 5, l441.length, l441.flatMap GRR.enc⟩) :: R, φ93⟩ (fun _ h => h) <| c_seq <| c_region <| g_v rfl (r_lss rfl rfl) <| g_nil <| d_then <| c_seq ?_
       refine c_cond rfl (fun h463 => ?_) (fun h463 => ?_)
       ·
        replace hm := ite_t hm (of_decide_eq_true h463)
        refine c_skip <| d_then <| c_seq <| c_block <| c_seq <| c_region ?_
        replace hm := bnd hm
        obtain ⟨x464, hx464, hm⟩ := hm
        refine g_know _ (fun W hS => cl_at (p := (Sta.ok ⟨w0, M, (100100, g94, .cells #[.int .u16 x79.fID, .bool x79.fResponse, .bool x79.fAuthoritative, .bool x79.fTruncated, .bool x79.fDesired, .bool x79.fAvailable, .int .i64 x79.fOpcode, .int .i64 x79.fCode, .slice A81 x79.fQuestions.length c82, .slice A84 x79.fAnswers.length c85, .slice A102 x100.length c103, .slice A442 l441.length c443] 26 (0, 0)) :: (100090, g78, .cells #[.string x69.fApex, .slice pp73.pA0 x69.fRecords.length pp73.pC0] 60 (0, 0)) :: (100040, g2, .cells #[.int .u16 0, .bool false, .bool false, .bool false, .bool false, .bool false, .int .i64 0, .int .i64 0, .slice none 0 0, .slice none 0 0, .slice none 0 0, .slice none 0 0] 26 (0, 0)) :: H, (100930, ⟨.slice A378 x376.length c379, 42, 5, x376.length, x376.flatMap GRR.enc⟩) :: (100770, ⟨.slice A102 x100.length c103, 42, 5, x100.length, x100.flatMap GRR.enc⟩) :: (100653, ⟨.slice A442 l441.length c443, 42, 5, l441.length, l441.flatMap GRR.enc⟩) :: R, φ93⟩)) (sz := 5) (fun _ => rfl) (by decide) hS (fun W hS => rowCl (S := ⟨w0, M, (100100, g94, .cells #[.int .u16 x79.fID, .bool x79.fResponse, .bool x79.fAuthoritative, .bool x79.fTruncated, .bool x79.fDesired, .bool x79.fAvailable, .int .i64 x79.fOpcode, .int .i64 x79.fCode, .slice A81 x79.fQuestions.length c82, .slice A84 x79.fAnswers.length c85, .slice A102 x100.length c103, .slice A442 l441.length c443] 26 (0, 0)) :: (100090, g78, .cells #[.string x69.fApex, .slice pp73.pA0 x69.fRecords.length pp73.pC0] 60 (0, 0)) :: (100040, g2, .cells #[.int .u16 0, .bool false, .bool false, .bool false, .bool false, .bool false, .int .i64 0, .int .i64 0, .slice none 0 0, .slice none 0 0, .slice none 0 0, .slice none 0 0] 26 (0, 0)) :: H, (100930, ⟨.slice A378 x376.length c379, 42, 5, x376.length, x376.flatMap GRR.enc⟩) :: (100770, ⟨.slice A102 x100.length c103, 42, 5, x100.length, x100.flatMap GRR.enc⟩) :: (100653, ⟨.slice A442 l441.length c443, 42, 5, l441.length, l441.flatMap GRR.enc⟩) :: R, φ93⟩) (tag := 100930) rfl W hS) hx464) ?_
        rintro ⟨ad465, hA467, f466⟩
        refine g_v rfl (r_ix Try.underlying24 Try.sizeOf42 rfl hA467 rfl hx464) <| g_v rfl (r_ldA rfl Try.isAgg42 Try.sizeOf42 (fun W hS => (f466 W hS).take 5) rfl) ?_
        refine g_e rfl (e_alloc 100180 Try.zeroValue42) (fun g468 _ => ?_)
        refine g_storeL (tag := 100180) rfl rfl rfl rfl Try.sizeOf42 rfl rfl <| g_nil <| d_then <| c_seq <| c_region <| g_v rfl (r_field (n := 11) Try.underlying26 rfl Try.sizeOf24 rfl rfl) <| g_v rfl (r_load (tag := 100100) rfl rfl rfl Try.isAgg24) <| g_v rfl (r_loadA (tag := 100180) rfl rfl Try.isAgg42 Try.sizeOf42 rfl rfl) ?_
        replace hm := bnd hm
        obtain ⟨x469, hx470, hm⟩ := hm
        refine g_cn ⟨w0, M, _, _, φ93⟩ (fun _ h => h) Try.call29 rfl rfl (c_slices_Contains_29 l441 A442 c443 hc443 (fun W hS => rowCl (tag := 100653) rfl W hS) x464 _ hx470) (fun _ _ => ?_)
        refine g_v rfl (r_not rfl) <| g_nil <| d_then ?_
        refine c_flat [(4, .pointer (some ⟨g2, 0, none⟩)), (9, .pointer (some ⟨g78, 0, none⟩)), (10, .pointer (some ⟨g94, 0, none⟩)), (18, .pointer (some ⟨g468, 0, none⟩)), (80, .slice A102 x100.length c103), (81, .int .i64 (x100.length : Int)), (82, .int .i64 i303), (93, .slice A378 x376.length c379), (94, .int .i64 (x376.length : Int)), (95, .int .i64 i444), (103, .bool (!x469))] ⟨rfl, rfl, rfl, rfl, rfl, rfl, rfl, rfl, rfl, rfl, rfl, trivial⟩ (fun u => ?_)
        refine c_sta ⟨w0, M, (100180, g468, .cells #[.string x464.fName, .int .u16 x464.fType, .int .u16 x464.fClass, .int .u32 x464.fTTL, .string x464.fData] 42 (0, 0)) :: (100100, g94, .cells #[.int .u16 x79.fID, .bool x79.fResponse, .bool x79.fAuthoritative, .bool x79.fTruncated, .bool x79.fDesired, .bool x79.fAvailable, .int .i64 x79.fOpcode, .int .i64 x79.fCode, .slice A81 x79.fQuestions.length c82, .slice A84 x79.fAnswers.length c85, .slice A102 x100.length c103, .slice A442 l441.length c443] 26 (0, 0)) :: (100090, g78, .cells #[.string x69.fApex, .slice pp73.pA0 x69.fRecords.length pp73.pC0] 60 (0, 0)) :: (100040, g2, .cells #[.int .u16 0, .bool false, .bool false, .bool false, .bool false, .bool false, .int .i64 0, .int .i64 0, .slice none 0 0, .slice none 0 0, .slice none 0 0, .slice none 0 0] 26 (0, 0)) :: H, (100930, ⟨.slice A378 x376.length c379, 42, 5, x376.length, x376.flatMap GRR.enc⟩) :: (100770, ⟨.slice A102 x100.length c103, 42, 5, x100.length, x100.flatMap GRR.enc⟩) :: (100653, ⟨.slice A442 l441.length c443, 42, 5, l441.length, l441.flatMap GRR.enc⟩) :: R, φ93⟩ (fun _ h => h) ?_
        refine c_cond rfl (fun h471 => ?_) (fun h471 => ?_)
        ·
         have h471' : x469 = false := by revert h471; cases x469 <;> simp
         replace hm := ite_f hm (bool_nt h471')
         refine c_region <| g_v rfl (r_field (n := 11) Try.underlying26 rfl Try.sizeOf24 rfl rfl) <| g_v rfl (r_load (tag := 100100) rfl rfl rfl Try.isAgg24) <| g_v rfl (r_loadA (tag := 100180) rfl rfl Try.isAgg42 Try.sizeOf42 rfl rfl) ?_
         refine g_e rfl (e_lit (tag := 101070) (l := [x464]) (enc := GRR.enc) (sz := 5) rfl Try.underlying24 (lit42_16 _ _ _ _ _) rfl rfl (fun _ => rfl)) (fun g472 _ => ?_)
         replace hm := bnd hm
         obtain ⟨l473, hl473, hm⟩ := hm
         refine g_e rfl (e_appR (enc := GRR.enc) (l := l441) (l1 := [x464]) (l2 := l473) (tag := 100653) Try.underlying24 inf42_17 rfl (by decide) (by decide) (fun _ => rfl) (fun _ => rfl) rfl hc443 rfl rfl (fun W hS => rowCl (tag := 101070) rfl W hS) hl473) (fun ⟨A474, c475⟩ hc475 => ?_)
         refine g_v rfl (r_field (n := 11) Try.underlying26 rfl Try.sizeOf24 rfl rfl) <| g_storeL (tag := 100100) rfl rfl rfl rfl Try.sizeOf24 rfl rfl <| g_nil <| d_normal_block <| d_then <| c_region <| g_v rfl (r_add rfl rfl rfl) <| g_v rfl r_move <| g_nil ?_
         obtain ⟨n476, hn476, hlp⟩ := nx_inl hm hnx4
         exact d_round (n476, l473, w64 (i444 + 1), A474, c475) ⟨hlp, hc475⟩ hn476 ⟨rfl, rfl, rfl, rfl, rfl, rfl, rfl, rfl, rfl, trivial⟩ (fun W h => ((h.dropR (t := 101070) rfl).dropH (t := 100180) rfl).phi (fun W hφ => hφ))
        have h471' : x469 = true := by revert h471; cases x469 <;> simp
        replace hm := ite_t hm h471'
        refine c_skip <| d_normal_block <| d_then <| c_region <| g_v rfl (r_add rfl rfl rfl) <| g_v rfl r_move <| g_nil ?_
        obtain ⟨n477, hn477, hlp⟩ := nx_inl hm hnx4
        exact d_round (n477, l441, w64 (i444 + 1), A442, c443) ⟨hlp, hc443⟩ hn477 ⟨rfl, rfl, rfl, rfl, rfl, rfl, rfl, rfl, rfl, trivial⟩ (fun W h => (h.dropH (t := 100180) rfl).phi (fun W hφ => hφ))
       replace hm := ite_f hm (of_decide_eq_false h463)
       refine c_exit <| d_exit_then <| d_exit_then <| d_exit_block ?_
       replace hm := nx_out (C := (fun e : (List GRR) => m_auth_Answer_j3 i303 e = some o2)) hm hnx4 hr4
       exact d_round (l441, A442, c443) ⟨hm, hc443⟩ Nat.zero_lt_one ⟨rfl, rfl, rfl, rfl, rfl, rfl, trivial⟩ (fun W h => (h.dropR (t := 100930) rfl).phi (fun W hφ => hφ))
      unfold m_auth_Answer_j3 at hm
      refine d_flat [(4, .pointer (some ⟨g2, 0, none⟩)), (9, .pointer (some ⟨g78, 0, none⟩)), (10, .pointer (some ⟨g94, 0, none⟩)), (80, .slice A102 x100.length c103), (81, .int .i64 (x100.length : Int)), (82, .int .i64 i303)] ⟨rfl, rfl, rfl, rfl, rfl, rfl, trivial⟩ (fun u => ?_)
      refine d_sta ⟨w0, M, (100100, g94, .cells #[.int .u16 x79.fID, .bool x79.fResponse, .bool x79.fAuthoritative, .bool x79.fTruncated, .bool x79.fDesired, .bool x79.fAvailable, .int .i64 x79.fOpcode, .int .i64 x79.fCode, .slice A81 x79.fQuestions.length c82, .slice A84 x79.fAnswers.length c85, .slice A102 x100.length c103, .slice A421 l420.length c422] 26 (0, 0)) :: (100090, g78, .cells #[.string x69.fApex, .slice pp73.pA0 x69.fRecords.length pp73.pC0] 60 (0, 0)) :: (100040, g2, .cells #[.int .u16 0, .bool false, .bool false, .bool false, .bool false, .bool false, .int .i64 0, .int .i64 0, .slice none 0 0, .slice none 0 0, .slice none 0 0, .slice none 0 0] 26 (0, 0)) :: H, (100770, ⟨.slice A102 x100.length c103, 42, 5, x100.length, x100.flatMap GRR.enc⟩) :: (100653, ⟨.slice A421 l420.length c422, 42, 5, l420.length, l420.flatMap GRR.enc⟩) :: R, φ93⟩ (fun _ h => h) <| d_normal_block <| d_then <| c_region <| g_v rfl (r_add rfl rfl rfl) <| g_v rfl r_move <| g_nil ?_
      obtain ⟨n423, hn423, hlp⟩ := nx_inl hm hnx2
      exact d_round (n423, l420, w64 (i303 + 1), A421, c422) ⟨hlp, hc422⟩ hn423 ⟨rfl, rfl, rfl, rfl, rfl, rfl, trivial⟩ (fun W h => h.phi (fun W hφ => hφ))
     replace hm := ite_f hm (of_decide_eq_false h366)
     refine c_exit <| d_exit_then <| d_exit_then <| d_exit_block ?_
     replace hm := nx_out (C := (fun e : (List GRR) => m_auth_Answer_j1 x79 x100 e = some r)) hm hnx2 hr2
     exact d_round (l300, A301, c302) ⟨hm, hc302⟩ Nat.zero_lt_one ⟨rfl, rfl, trivial⟩ (fun W h => (h.dropH (t := 100090) rfl).phi (fun W hφ => hφ))
    unfold m_auth_Answer_j1 at hm
    refine d_flat [(4, .pointer (some ⟨g2, 0, none⟩)), (10, .pointer (some ⟨g94, 0, none⟩))] ⟨rfl, rfl, trivial⟩ (fun u => ?_)
    refine d_sta ⟨w0, M, (100100, g94, .cells #[.int .u16 x79.fID, .bool x79.fResponse, .bool x79.fAuthoritative, .bool x79.fTruncated, .bool x79.fDesired, .bool x79.fAvailable, .int .i64 x79.fOpcode, .int .i64 x79.fCode, .slice A81 x79.fQuestions.length c82, .slice A84 x79.fAnswers.length c85, .slice A102 x100.length c103, .slice A233 l232.length c234] 26 (0, 0)) :: (100040, g2, .cells #[.int .u16 0, .bool false, .bool false, .bool false, .bool false, .bool false, .int .i64 0, .int .i64 0, .slice none 0 0, .slice none 0 0, .slice none 0 0, .slice none 0 0] 26 (0, 0)) :: H, (100770, ⟨.slice A102 x100.length c103, 42, 5, x100.length, x100.flatMap GRR.enc⟩) :: (100653, ⟨.slice A233 l232.length c234, 42, 5, l232.length, l232.flatMap GRR.enc⟩) :: R, φ93⟩ (fun _ h => h) <| d_then <| c_seq <| c_region <| g_v rfl (r_loadA (tag := 100100) rfl rfl Try.isAgg26 Try.sizeOf26 rfl rfl) <| g_storeL (tag := 100040) rfl rfl rfl rfl Try.sizeOf26 rfl rfl <| g_nil <| d_then <| c_ret <| d_ret_then ?_
    cases hm
    refine d_shut (tag := 100770) rfl (fun φ235 q235' => ?_)
    have q235 : ∀ W, φ235 W → φ93 W := fun W h => (q235' W h).1
    have f236 := fun (W : World) (h : φ235 W) => (q235' W h).2
    refine d_shut (tag := 100653) rfl (fun φ237 q237' => ?_)
    have q237 : ∀ W, φ237 W → φ235 W := fun W h => (q237' W h).1
    have f238 := fun (W : World) (h : φ237 W) => (q237' W h).2
    exact d_retC (A81, c82, A84, c85, A102, c103, A233, c234) Try.results9 (res_agg (tag := 100040) rfl rfl Try.isAgg26 Try.sizeOf26 (res_nil rfl)) ⟨hc82, hc85, hc103, hc234⟩ (fun W h => ok_pre (H1 := [_, _]) (R1 := []) h (fun W hφ => ⟨(q93 _ (q235 _ (q237 _ hφ))), (fun W h => f83 W (q235 _ (q237 _ h))) W hφ, (fun W h => f86 W (q235 _ (q237 _ h))) W hφ, (fun W h => f236 W (q237 _ h)) W hφ, (fun W h => f238 W h) W hφ⟩)) (.inr rfl)
   replace hm := ite_f hm (bool_nt h99)
   refine c_skip <| d_then <| c_seq <| c_region <| g_v rfl (r_field (n := 2) Try.underlying26 rfl Try.sizeOf4 rfl rfl) <| g_storeL (tag := 100100) rfl rfl rfl rfl Try.sizeOf4 rfl rfl <| g_nil <| d_then <| c_seq <| c_region ?_
   refine g_v rfl (r_loadA (tag := 100090) rfl rfl Try.isAgg60 Try.sizeOf60 rfl rfl) <| g_v rfl (r_field (n := 0) Try.underlying29 rfl Try.sizeOf9 rfl rfl) <| g_v rfl (r_load (tag := 100060) rfl rfl rfl Try.isAgg9) <| g_v rfl (r_field (n := 1) Try.underlying29 rfl Try.sizeOf22 rfl rfl) <| g_v rfl (r_load (tag := 100060) rfl rfl rfl Try.isAgg22) ?_
   replace hm := bnd hm
   obtain ⟨x478, hx479, hm⟩ := hm
   refine g_cn ⟨w0, M, _, _, φ93⟩ (fun _ h => h) Try.call26 rfl rfl (c_auth_zone_of (⟨x69⟩ : Gauth_zone) pp73.pA0 pp73.pC0 hcp76 (fun W hS => f77 W (q93 _ hS.now)) x41.fName x41.fType _ hx479) (fun ⟨A480, c481⟩ hc481 => ?_)
   refine g_sta _ (fun W h => (ok_frontR (t := 2000) (t' := 101190) h rfl)) <| g_v rfl (r_field (n := 9) Try.underlying26 rfl Try.sizeOf24 rfl rfl) <| g_storeL (tag := 100100) rfl rfl rfl rfl Try.sizeOf24 rfl rfl <| g_nil <| d_then ?_
   refine c_flat [(4, .pointer (some ⟨g2, 0, none⟩)), (6, .pointer (some ⟨g45, 0, none⟩)), (9, .pointer (some ⟨g78, 0, none⟩)), (10, .pointer (some ⟨g94, 0, none⟩))] ⟨rfl, rfl, rfl, rfl, trivial⟩ (fun u => ?_)
   refine c_sta ⟨w0, M, (100100, g94, .cells #[.int .u16 x79.fID, .bool x79.fResponse, .bool true, .bool x79.fTruncated, .bool x79.fDesired, .bool x79.fAvailable, .int .i64 x79.fOpcode, .int .i64 x79.fCode, .slice A81 x79.fQuestions.length c82, .slice A480 x478.length c481, .slice A87 x79.fAuthorities.length c88, .slice A90 x79.fExtras.length c91] 26 (0, 0)) :: (100090, g78, .cells #[.string x69.fApex, .slice pp73.pA0 x69.fRecords.length pp73.pC0] 60 (0, 0)) :: (100060, g45, .cells #[.string x41.fName, .int .u16 x41.fType, .int .u16 x41.fClass] 29 (0, 0)) :: (100040, g2, .cells #[.int .u16 0, .bool false, .bool false, .bool false, .bool false, .bool false, .int .i64 0, .int .i64 0, .slice none 0 0, .slice none 0 0, .slice none 0 0, .slice none 0 0] 26 (0, 0)) :: (100030, g1, .cells #[.int .u16 p1.fID, .bool p1.fResponse, .bool p1.fAuthoritative, .bool p1.fTruncated, .bool p1.fDesired, .bool p1.fAvailable, .int .i64 p1.fOpcode, .int .i64 p1.fCode, .slice Ap1_0 p1.fQuestions.length cp1_0, .slice Ap1_1 p1.fAnswers.length cp1_1, .slice Ap1_2 p1.fAuthorities.length cp1_2, .slice Ap1_3 p1.fExtras.length cp1_3] 26 (0, 0)) :: H, (101190, ⟨.slice A480 x478.length c481, 42, 5, x478.length, x478.flatMap GRR.enc⟩) :: (100653, ⟨.slice A90 x79.fExtras.length c91, 42, 5, x79.fExtras.length, x79.fExtras.flatMap GRR.enc⟩) :: R, φ93⟩ (fun _ h => h) <| c_seq ?_
   refine c_cut (ι := (List GRR) × Option Addr × Nat) [4, 6, 9, 10] (fun ⟨l497, A498, c499⟩ => []) (fun ⟨l497, A498, c499⟩ => ⟨w0, M, (100100, g94, .cells #[.int .u16 x79.fID, .bool x79.fResponse, .bool true, .bool x79.fTruncated, .bool x79.fDesired, .bool x79.fAvailable, .int .i64 x79.fOpcode, .int .i64 x79.fCode, .slice A81 x79.fQuestions.length c82, .slice A498 l497.length c499, .slice A87 x79.fAuthorities.length c88, .slice A90 x79.fExtras.length c91] 26 (0, 0)) :: (100090, g78, .cells #[.string x69.fApex, .slice pp73.pA0 x69.fRecords.length pp73.pC0] 60 (0, 0)) :: (100060, g45, .cells #[.string x41.fName, .int .u16 x41.fType, .int .u16 x41.fClass] 29 (0, 0)) :: (100040, g2, .cells #[.int .u16 0, .bool false, .bool false, .bool false, .bool false, .bool false, .int .i64 0, .int .i64 0, .slice none 0 0, .slice none 0 0, .slice none 0 0, .slice none 0 0] 26 (0, 0)) :: H, (100653, ⟨.slice A90 x79.fExtras.length c91, 42, 5, x79.fExtras.length, x79.fExtras.flatMap GRR.enc⟩) :: R, fun W => φ93 W ∧ Cl W A498 (l497.flatMap GRR.enc)⟩) (fun ⟨l497, A498, c499⟩ => m_auth_Answer_j5 x69 x41 x79 l497 = some r ∧ l497.length ≤ c499) ?_ (fun ⟨l497, A498, c499⟩ u ⟨hm, hc499⟩ => ?_)
   ·
    refine c_seq <| c_region <| g_v rfl (r_field (n := 9) Try.underlying26 rfl Try.sizeOf24 rfl rfl) <| g_v rfl (r_load (tag := 100100) rfl rfl rfl Try.isAgg24) <| g_v rfl (r_lenL Try.underlying24 rfl) <| g_v rfl (r_eql rfl rfl) <| g_nil <| d_then ?_
    refine c_cond rfl (fun h536 => ?_) (fun h536 => ?_)
    ·
     replace hm := ite_t hm (of_decide_eq_true h536)
     refine c_seq <| c_region <| g_v rfl (r_loadA (tag := 100090) rfl rfl Try.isAgg60 Try.sizeOf60 rfl rfl) <| g_v rfl (r_field (n := 0) Try.underlying29 rfl Try.sizeOf9 rfl rfl) <| g_v rfl (r_load (tag := 100060) rfl rfl rfl Try.isAgg9) ?_
     replace hm := bnd hm
     obtain ⟨x537, hx538, hm⟩ := hm
     refine g_cn ⟨w0, M, _, _, φ93⟩ (fun _ h => h) Try.call26 rfl rfl (c_auth_zone_of (⟨x69⟩ : Gauth_zone) pp73.pA0 pp73.pC0 hcp76 (fun W hS => f77 W (q93 _ hS.now)) x41.fName 5 _ hx538) (fun ⟨A539, c540⟩ hc540 => ?_)
     refine g_sta _ (fun W h => (ok_frontR (t := 2000) (t' := 101280) h rfl)) <| g_v rfl r_assign <| g_nil <| d_then ?_
     refine c_flat [(4, .pointer (some ⟨g2, 0, none⟩)), (6, .pointer (some ⟨g45, 0, none⟩)), (9, .pointer (some ⟨g78, 0, none⟩)), (10, .pointer (some ⟨g94, 0, none⟩)), (19, .slice A539 x537.length c540)] ⟨rfl, rfl, rfl, rfl, rfl, trivial⟩ (fun u => ?_)
     refine c_sta ⟨w0, M, (100100, g94, .cells #[.int .u16 x79.fID, .bool x79.fResponse, .bool true, .bool x79.fTruncated, .bool x79.fDesired, .bool x79.fAvailable, .int .i64 x79.fOpcode, .int .i64 x79.fCode, .slice A81 x79.fQuestions.length c82, .slice A480 x478.length c481, .slice A87 x79.fAuthorities.length c88, .slice A90 x79.fExtras.length c91] 26 (0, 0)) :: (100090, g78, .cells #[.string x69.fApex, .slice pp73.pA0 x69.fRecords.length pp73.pC0] 60 (0, 0)) :: (100060, g45, .cells #[.string x41.fName, .int .u16 x41.fType, .int .u16 x41.fClass] 29 (0, 0)) :: (100040, g2, .cells #[.int .u16 0, .bool false, .bool false, .bool false, .bool false, .bool false, .int .i64 0, .int .i64 0, .slice none 0 0, .slice none 0 0, .slice none 0 0, .slice none 0 0] 26 (0, 0)) :: (100030, g1, .cells #[.int .u16 p1.fID, .bool p1.fResponse, .bool p1.fAuthoritative, .bool p1.fTruncated, .bool p1.fDesired, .bool p1.fAvailable, .int .i64 p1.fOpcode, .int .i64 p1.fCode, .slice Ap1_0 p1.fQuestions.length cp1_0, .slice Ap1_1 p1.fAnswers.length cp1_1, .slice Ap1_2 p1.fAuthorities.length cp1_2, .slice Ap1_3 p1.fExtras.length cp1_3] 26 (0, 0)) :: H, (101280, ⟨.slice A539 x537.length c540, 42, 5, x537.length, x537.flatMap GRR.enc⟩) :: (101190, ⟨.slice A480 x478.length c481, 42, 5, x478.length, x478.flatMap GRR.enc⟩) :: (100653, ⟨.slice A90 x79.fExtras.length c91, 42, 5, x79.fExtras.length, x79.fExtras.flatMap GRR.enc⟩) :: R, φ93⟩ (fun _ h => h) <| c_region <| g_v rfl r_move <| g_v rfl r_move <| g_v rfl (r_lenL Try.underlying24 rfl) <| g_v rfl (r_min rfl rfl) ?_
     refine g_shut (tag := 101280) rfl (fun φ542 q542' => ?_)
     have q542 : ∀ W, φ542 W → φ93 W := fun W h => (q542' W h).1
     have f543 := fun (W : World) (h : φ542 W) => (q542' W h).2
     replace hm := bnd hm
     obtain ⟨l545, hl545, hm⟩ := hm
     have f544 := fun (W : World) (h : φ542 W) => cl_cutHi (enc := GRR.enc) (sz := 5) (fun _ => rfl) hl545 (f543 W h)
     refine g_v rfl (r_lcutHi Try.underlying24 Try.sizeOf42 rfl hc540 rfl hl545) <| g_v rfl (r_field (n := 9) Try.underlying26 rfl Try.sizeOf24 rfl rfl) <| g_storeL (tag := 100100) rfl rfl rfl rfl Try.sizeOf24 rfl rfl <| g_nil ?_
     exact d_round (l545, A539, c540) ⟨hm, (cutHi_len hc540 hl545)⟩ Nat.zero_lt_one ⟨rfl, rfl, rfl, rfl, trivial⟩ (fun W h => ((h.dropR (t := 101190) rfl).dropH (t := 100030) rfl).phi (fun W hφ => ⟨(q542 _ hφ), (fun W h => f544 W h) W hφ⟩))
    replace hm := ite_f hm (of_decide_eq_false h536)
    refine c_skip ?_
    refine d_shut (tag := 101190) rfl (fun φ546 q546' => ?_)
    have q546 : ∀ W, φ546 W → φ93 W := fun W h => (q546' W h).1
    have f547 := fun (W : World) (h : φ546 W) => (q546' W h).2
    exact d_round (x478, A480, c481) ⟨hm, hc481⟩ Nat.zero_lt_one ⟨rfl, rfl, rfl, rfl, trivial⟩ (fun W h => (h.dropH (t := 100030) rfl).phi (fun W hφ => ⟨(q546 _ hφ), (fun W h => f547 W h) W hφ⟩))
   unfold m_auth_Answer_j5 at hm
   refine d_abs (fun φ501 q501' => ?_)
   have q501 : ∀ W, φ501 W → φ93 W := fun W h => (q501' W h).1
   have f500 := fun (W : World) (h : φ501 W) => (q501' W h).2
   refine d_flat [(4, .pointer (some ⟨g2, 0, none⟩)), (6, .pointer (some ⟨g45, 0, none⟩)), (9, .pointer (some ⟨g78, 0, none⟩)), (10, .pointer (some ⟨g94, 0, none⟩))] ⟨rfl, rfl, rfl, rfl, trivial⟩ (fun u => ?_)
   refine d_sta ⟨w0, M, (100100, g94, .cells #[.int .u16 x79.fID, .bool x79.fResponse, .bool true, .bool x79.fTruncated, .bool x79.fDesired, .bool x79.fAvailable, .int .i64 x79.fOpcode, .int .i64 x79.fCode, .slice A81 x79.fQuestions.length c82, .slice A498 l497.length c499, .slice A87 x79.fAuthorities.length c88, .slice A90 x79.fExtras.length c91] 26 (0, 0)) :: (100090, g78, .cells #[.string x69.fApex, .slice pp73.pA0 x69.fRecords.length pp73.pC0] 60 (0, 0)) :: (100060, g45, .cells #[.string x41.fName, .int .u16 x41.fType, .int .u16 x41.fClass] 29 (0, 0)) :: (100040, g2, .cells #[.int .u16 0, .bool false, .bool false, .bool false, .bool false, .bool false, .int .i64 0, .int .i64 0, .slice none 0 0, .slice none 0 0, .slice none 0 0, .slice none 0 0] 26 (0, 0)) :: H, (100653, ⟨.slice A90 x79.fExtras.length c91, 42, 5, x79.fExtras.length, x79.fExtras.flatMap GRR.enc⟩) :: R, φ501⟩ (fun _ h => h) <| d_then <| c_seq ?_
   refine c_cut (ι := Int × (List GRR) × (List GRR) × Option Addr × Nat × Option Addr × Nat) [4, 10] (fun ⟨i511, l512, l516, A513, c514, A517, c518⟩ => []) (fun ⟨i511, l512, l516, A513, c514, A517, c518⟩ => ⟨w0, M, (100100, g94, .cells #[.int .u16 x79.fID, .bool x79.fResponse, .bool true, .bool x79.fTruncated, .bool x79.fDesired, .bool x79.fAvailable, .int .i64 x79.fOpcode, .int .i64 i511, .slice A81 x79.fQuestions.length c82, .slice A513 l512.length c514, .slice A517 l516.length c518, .slice A90 x79.fExtras.length c91] 26 (0, 0)) :: (100040, g2, .cells #[.int .u16 0, .bool false, .bool false, .bool false, .bool false, .bool false, .int .i64 0, .int .i64 0, .slice none 0 0, .slice none 0 0, .slice none 0 0, .slice none 0 0] 26 (0, 0)) :: H, (100653, ⟨.slice A90 x79.fExtras.length c91, 42, 5, x79.fExtras.length, x79.fExtras.flatMap GRR.enc⟩) :: R, fun W => φ501 W ∧ Cl W A513 (l512.flatMap GRR.enc) ∧ Cl W A517 (l516.flatMap GRR.enc)⟩) (fun ⟨i511, l512, l516, A513, c514, A517, c518⟩ => m_auth_Answer_j6 x79 i511 l512 l516 = some r ∧ l512.length ≤ c514 ∧ l516.length ≤ c518) ?_ (fun ⟨i511, l512, l516, A513, c514, A517, c518⟩ u ⟨hm, hc514, hc518⟩ => ?_)
   ·
    refine c_seq <| c_region <| g_v rfl (r_field (n := 9) Try.underlying26 rfl Try.sizeOf24 rfl rfl) <| g_v rfl (r_load (tag := 100100) rfl rfl rfl Try.isAgg24) <| g_v rfl (r_lenL Try.underlying24 rfl) <| g_v rfl (r_eql rfl rfl) <| g_nil <| d_then ?_
    refine c_cond rfl (fun h523 => ?_) (fun h523 => ?_)
    ·
     replace hm := ite_t hm (of_decide_eq_true h523)
     refine c_seq <| c_region <| g_v rfl (r_loadA (tag := 100090) rfl rfl Try.isAgg60 Try.sizeOf60 rfl rfl) <| g_v rfl (r_field (n := 0) Try.underlying60 rfl Try.sizeOf33 rfl rfl) <| g_v rfl (r_field (n := 0) Try.underlying33 rfl Try.sizeOf9 rfl rfl) <| g_v rfl (r_load (tag := 100090) rfl rfl rfl Try.isAgg9) ?_
     replace hm := bnd hm
     obtain ⟨x524, hx525, hm⟩ := hm
     refine g_cn ⟨w0, M, _, _, φ501⟩ (fun _ h => h) Try.call26 rfl rfl (c_auth_zone_of (⟨x69⟩ : Gauth_zone) pp73.pA0 pp73.pC0 hcp76 (fun W hS => f77 W (q93 _ (q501 _ hS.now))) x69.fApex 6 _ hx525) (fun ⟨A526, c527⟩ hc527 => ?_)
     refine g_sta _ (fun W h => (ok_frontR (t := 2000) (t' := 101430) h rfl)) <| g_v rfl (r_field (n := 9) Try.underlying26 rfl Try.sizeOf24 rfl rfl) <| g_storeL (tag := 100100) rfl rfl rfl rfl Try.sizeOf24 rfl rfl <| g_v rfl (r_field (n := 10) Try.underlying26 rfl Try.sizeOf24 rfl rfl) <| g_storeL (tag := 100100) rfl rfl rfl rfl Try.sizeOf24 rfl rfl <| g_nil <| d_then ?_
     refine c_flat [(4, .pointer (some ⟨g2, 0, none⟩)), (6, .pointer (some ⟨g45, 0, none⟩)), (9, .pointer (some ⟨g78, 0, none⟩)), (10, .pointer (some ⟨g94, 0, none⟩))] ⟨rfl, rfl, rfl, rfl, trivial⟩ (fun u => ?_)
     refine c_sta ⟨w0, M, (100100, g94, .cells #[.int .u16 x79.fID, .bool x79.fResponse, .bool true, .bool x79.fTruncated, .bool x79.fDesired, .bool x79.fAvailable, .int .i64 x79.fOpcode, .int .i64 x79.fCode, .slice A81 x79.fQuestions.length c82, .slice none 0 0, .slice A526 x524.length c527, .slice A90 x79.fExtras.length c91] 26 (0, 0)) :: (100090, g78, .cells #[.string x69.fApex, .slice pp73.pA0 x69.fRecords.length pp73.pC0] 60 (0, 0)) :: (100060, g45, .cells #[.string x41.fName, .int .u16 x41.fType, .int .u16 x41.fClass] 29 (0, 0)) :: (100040, g2, .cells #[.int .u16 0, .bool false, .bool false, .bool false, .bool false, .bool false, .int .i64 0, .int .i64 0, .slice none 0 0, .slice none 0 0, .slice none 0 0, .slice none 0 0] 26 (0, 0)) :: H, (101430, ⟨.slice A526 x524.length c527, 42, 5, x524.length, x524.flatMap GRR.enc⟩) :: (100653, ⟨.slice A90 x79.fExtras.length c91, 42, 5, x79.fExtras.length, x79.fExtras.flatMap GRR.enc⟩) :: R, φ501⟩ (fun _ h => h) <| c_seq <| c_region <| g_v rfl (r_field (n := 0) Try.underlying60 rfl Try.sizeOf33 rfl rfl) <| g_v rfl (r_loadA (tag := 100090) rfl rfl Try.isAgg33 Try.sizeOf33 rfl rfl) <| g_v rfl (r_field (n := 0) Try.underlying29 rfl Try.sizeOf9 rfl rfl) <| g_v rfl (r_load (tag := 100060) rfl rfl rfl Try.isAgg9) ?_
     replace hm := bnd hm
     obtain ⟨x529, hx530, hm⟩ := hm
     refine g_cn ⟨w0, M, _, _, φ501⟩ (fun _ h => h) Try.call30 rfl rfl (c_auth_There x69 pp73.pA0 pp73.pC0 hcp76 (fun W hS => f77 W (q93 _ (q501 _ hS.now))) x41.fName _ hx530) (fun _ _ => ?_)
     refine g_v rfl (r_not rfl) <| g_nil <| d_then ?_
     refine c_cond rfl (fun h531 => ?_) (fun h531 => ?_)
     ·
      have h531' : x529 = false := by revert h531; cases x529 <;> simp
      replace hm := ite_f hm (bool_nt h531')
      refine c_region <| g_v rfl (r_field (n := 7) Try.underlying26 rfl Try.sizeOf3 rfl rfl) <| g_storeL (tag := 100100) rfl rfl rfl rfl Try.sizeOf3 rfl rfl <| g_nil ?_
      refine d_shut (tag := 101430) rfl (fun φ532 q532' => ?_)
      have q532 : ∀ W, φ532 W → φ501 W := fun W h => (q532' W h).1
      have f533 := fun (W : World) (h : φ532 W) => (q532' W h).2
      exact d_round (3, ([] : List GRR), x524, none, 0, A526, c527) ⟨hm, (Nat.le_refl 0), hc527⟩ Nat.zero_lt_one ⟨rfl, rfl, trivial⟩ (fun W h => ((h.dropH (t := 100090) rfl).dropH (t := 100060) rfl).phi (fun W hφ => ⟨(q532 _ hφ), (fun W _ => Cl.nil _ _) W hφ, (fun W h => f533 W h) W hφ⟩))
     have h531' : x529 = true := by revert h531; cases x529 <;> simp
     replace hm := ite_t hm h531'
     refine c_skip ?_
     refine d_shut (tag := 101430) rfl (fun φ534 q534' => ?_)
     have q534 : ∀ W, φ534 W → φ501 W := fun W h => (q534' W h).1
     have f535 := fun (W : World) (h : φ534 W) => (q534' W h).2
     exact d_round (x79.fCode, ([] : List GRR), x524, none, 0, A526, c527) ⟨hm, (Nat.le_refl 0), hc527⟩ Nat.zero_lt_one ⟨rfl, rfl, trivial⟩ (fun W h => ((h.dropH (t := 100090) rfl).dropH (t := 100060) rfl).phi (fun W hφ => ⟨(q534 _ hφ), (fun W _ => Cl.nil _ _) W hφ, (fun W h => f535 W h) W hφ⟩))
    replace hm := ite_f hm (of_decide_eq_false h523)
    refine c_skip ?_
    exact d_round (x79.fCode, l497, x79.fAuthorities, A498, c499, A87, c88) ⟨hm, hc499, hc88⟩ Nat.zero_lt_one ⟨rfl, rfl, trivial⟩ (fun W h => ((h.dropH (t := 100090) rfl).dropH (t := 100060) rfl).phi (fun W hφ => ⟨hφ, (fun W h => f500 W h) W hφ, (fun W h => f89 W (q501 _ h)) W hφ⟩))
   unfold m_auth_Answer_j6 at hm
   refine d_abs (fun φ520 q520' => ?_)
   have q520 : ∀ W, φ520 W → φ501 W := fun W h => (q520' W h).1
   have f515 := fun (W : World) (h : φ520 W) => (q520' W h).2.1
   have f519 := fun (W : World) (h : φ520 W) => (q520' W h).2.2
   refine d_flat [(4, .pointer (some ⟨g2, 0, none⟩)), (10, .pointer (some ⟨g94, 0, none⟩))] ⟨rfl, rfl, trivial⟩ (fun u => ?_)
   refine d_sta ⟨w0, M, (100100, g94, .cells #[.int .u16 x79.fID, .bool x79.fResponse, .bool true, .bool x79.fTruncated, .bool x79.fDesired, .bool x79.fAvailable, .int .i64 x79.fOpcode, .int .i64 i511, .slice A81 x79.fQuestions.length c82, .slice A513 l512.length c514, .slice A517 l516.length c518, .slice A90 x79.fExtras.length c91] 26 (0, 0)) :: (100040, g2, .cells #[.int .u16 0, .bool false, .bool false, .bool false, .bool false, .bool false, .int .i64 0, .int .i64 0, .slice none 0 0, .slice none 0 0, .slice none 0 0, .slice none 0 0] 26 (0, 0)) :: H, (100653, ⟨.slice A90 x79.fExtras.length c91, 42, 5, x79.fExtras.length, x79.fExtras.flatMap GRR.enc⟩) :: R, φ520⟩ (fun _ h => h) <| d_then <| c_seq <| c_region <| g_v rfl (r_loadA (tag := 100100) rfl rfl Try.isAgg26 Try.sizeOf26 rfl rfl) <| g_storeL (tag := 100040) rfl rfl rfl rfl Try.sizeOf26 rfl rfl <| g_nil <| d_then <| c_ret ?_
   cases hm
   refine d_shut (tag := 100653) rfl (fun φ521 q521' => ?_)
   have q521 : ∀ W, φ521 W → φ520 W := fun W h => (q521' W h).1
   have f522 := fun (W : World) (h : φ521 W) => (q521' W h).2
   exact d_retC (A81, c82, A513, c514, A517, c518, A90, c91) Try.results9 (res_agg (tag := 100040) rfl rfl Try.isAgg26 Try.sizeOf26 (res_nil rfl)) ⟨hc82, hc514, hc518, hc91⟩ (fun W h => ok_pre (H1 := [_, _]) (R1 := []) h (fun W hφ => ⟨(q93 _ (q501 _ (q520 _ (q521 _ hφ)))), (fun W h => f83 W (q501 _ (q520 _ (q521 _ h)))) W hφ, (fun W h => f515 W (q521 _ h)) W hφ, (fun W h => f519 W (q521 _ h)) W hφ, (fun W h => f522 W h) W hφ⟩)) (.inr rfl)
  replace hm := ite_t hm (of_decide_eq_true h50)
  refine g_no rfl rfl rfl rfl rfl h50 <| g_v rfl (r_pick1 rfl h50) <| g_nil <| d_then <| c_cond1 rfl rfl <| c_seq <| c_region <| g_v rfl (r_loadA (tag := 100030) rfl rfl Try.isAgg26 Try.sizeOf26 rfl rfl) ?_
  replace hm := bnd hm
  obtain ⟨x548, hx549, hm⟩ := hm
  refine g_cn ⟨w0, M, _, _, φ⟩ (fun _ h => h) Try.call25 rfl rfl (c_auth_reply p1 Ap1_0 cp1_0 hcp1_0 (fun W hS => fp1_0 W (ok_pre (H1 := [_, _, _]) (R1 := []) hS (fun W h => h))) Ap1_1 cp1_1 hcp1_1 (fun W hS => fp1_1 W (ok_pre (H1 := [_, _, _]) (R1 := []) hS (fun W h => h))) Ap1_2 cp1_2 hcp1_2 (fun W hS => fp1_2 W (ok_pre (H1 := [_, _, _]) (R1 := []) hS (fun W h => h))) Ap1_3 cp1_3 hcp1_3 (fun W hS => fp1_3 W (ok_pre (H1 := [_, _, _]) (R1 := []) hS (fun W h => h))) 5 _ hx549) (fun ⟨A550, c551, A553, c554, A556, c557, A559, c560⟩ ⟨hc551, hc554, hc557, hc560⟩ => ?_)
  refine g_sta _ (fun W h => (ok_frontR (t := 2003) (t' := 100583) h rfl)) ?_
  refine g_abs (fun φ562 q562' => ?_)
  have q562 : ∀ W, φ562 W → φ W := fun W h => (q562' W h).1
  have f552 := fun (W : World) (h : φ562 W) => (q562' W h).2.1
  have f555 := fun (W : World) (h : φ562 W) => (q562' W h).2.2.1
  have f558 := fun (W : World) (h : φ562 W) => (q562' W h).2.2.2
  refine g_storeL (tag := 100040) rfl rfl rfl rfl Try.sizeOf26 rfl rfl <| g_nil <| d_then <| c_ret <| d_ret_then ?_
  cases hm
  refine d_shut (tag := 100583) rfl (fun φ563 q563' => ?_)
  have q563 : ∀ W, φ563 W → φ562 W := fun W h => (q563' W h).1
  have f564 := fun (W : World) (h : φ563 W) => (q563' W h).2
  exact d_retC (A550, c551, A553, c554, A556, c557, A559, c560) Try.results9 (res_agg (tag := 100040) rfl rfl Try.isAgg26 Try.sizeOf26 (res_nil rfl)) ⟨hc551, hc554, hc557, hc560⟩ (fun W h => ok_pre (H1 := [_, _, _]) (R1 := []) h (fun W hφ => ⟨(q562 _ (q563 _ hφ)), (fun W h => f552 W (q563 _ h)) W hφ, (fun W h => f555 W (q563 _ h)) W hφ, (fun W h => f558 W (q563 _ h)) W hφ, (fun W h => f564 W h) W hφ⟩)) (.inr rfl)
 replace hm := ite_t hm h3
 iterate 3 refine g_no rfl rfl rfl rfl rfl h3 ?_
 refine g_v rfl (r_pick1 rfl h3) <| g_v rfl r_assign <| g_nil <| d_then <| c_cond1 rfl rfl <| c_seq <| c_region <| g_v rfl (r_loadA (tag := 100030) rfl rfl Try.isAgg26 Try.sizeOf26 rfl rfl) ?_
 replace hm := bnd hm
 obtain ⟨x565, hx566, hm⟩ := hm
 refine g_cn ⟨w0, M, _, _, φ⟩ (fun _ h => h) Try.call25 rfl rfl (c_auth_reply p1 Ap1_0 cp1_0 hcp1_0 (fun W hS => fp1_0 W (ok_pre (H1 := [_, _]) (R1 := []) hS (fun W h => h))) Ap1_1 cp1_1 hcp1_1 (fun W hS => fp1_1 W (ok_pre (H1 := [_, _]) (R1 := []) hS (fun W h => h))) Ap1_2 cp1_2 hcp1_2 (fun W hS => fp1_2 W (ok_pre (H1 := [_, _]) (R1 := []) hS (fun W h => h))) Ap1_3 cp1_3 hcp1_3 (fun W hS => fp1_3 W (ok_pre (H1 := [_, _]) (R1 := []) hS (fun W h => h))) 1 _ hx566) (fun ⟨A567, c568, A570, c571, A573, c574, A576, c577⟩ ⟨hc568, hc571, hc574, hc577⟩ => ?_)
 refine g_sta _ (fun W h => (ok_frontR (t := 2003) (t' := 100303) h rfl)) ?_
 refine g_abs (fun φ579 q579' => ?_)
 have q579 : ∀ W, φ579 W → φ W := fun W h => (q579' W h).1
 have f569 := fun (W : World) (h : φ579 W) => (q579' W h).2.1
 have f572 := fun (W : World) (h : φ579 W) => (q579' W h).2.2.1
 have f575 := fun (W : World) (h : φ579 W) => (q579' W h).2.2.2
 refine g_e rfl (e_alloc 100050 Try.zeroValue26) (fun g580 _ => ?_)
 refine g_storeL (tag := 100050) rfl rfl rfl rfl Try.sizeOf26 rfl rfl <| g_nil <| d_then ?_
 refine c_flat [(4, .pointer (some ⟨g2, 0, none⟩)), (5, .pointer (some ⟨g580, 0, none⟩))] ⟨rfl, rfl, trivial⟩ (fun u => ?_)
 refine c_sta ⟨w0, M, (100050, g580, .cells #[.int .u16 x565.fID, .bool x565.fResponse, .bool x565.fAuthoritative, .bool x565.fTruncated, .bool x565.fDesired, .bool x565.fAvailable, .int .i64 x565.fOpcode, .int .i64 x565.fCode, .slice A567 x565.fQuestions.length c568, .slice A570 x565.fAnswers.length c571, .slice A573 x565.fAuthorities.length c574, .slice A576 x565.fExtras.length c577] 26 (0, 0)) :: (100040, g2, .cells #[.int .u16 0, .bool false, .bool false, .bool false, .bool false, .bool false, .int .i64 0, .int .i64 0, .slice none 0 0, .slice none 0 0, .slice none 0 0, .slice none 0 0] 26 (0, 0)) :: (100030, g1, .cells #[.int .u16 p1.fID, .bool p1.fResponse, .bool p1.fAuthoritative, .bool p1.fTruncated, .bool p1.fDesired, .bool p1.fAvailable, .int .i64 p1.fOpcode, .int .i64 p1.fCode, .slice Ap1_0 p1.fQuestions.length cp1_0, .slice Ap1_1 p1.fAnswers.length cp1_1, .slice Ap1_2 p1.fAuthorities.length cp1_2, .slice Ap1_3 p1.fExtras.length cp1_3] 26 (0, 0)) :: H, (100303, ⟨.slice A576 x565.fExtras.length c577, 42, 5, x565.fExtras.length, x565.fExtras.flatMap GRR.enc⟩) :: R, φ579⟩ (fun _ h => h) <| c_seq <| c_region <| g_v rfl (r_field (n := 8) Try.underlying26 rfl Try.sizeOf23 rfl rfl) <| g_storeL (tag := 100050) rfl rfl rfl rfl Try.sizeOf23 rfl rfl <| g_nil <| d_then <| c_seq <| c_region <| g_v rfl (r_loadA (tag := 100050) rfl rfl Try.isAgg26 Try.sizeOf26 rfl rfl) ?_
 refine g_storeL (tag := 100040) rfl rfl rfl rfl Try.sizeOf26 rfl rfl <| g_nil <| d_then <| c_ret <| d_ret_block <| d_ret_then ?_
 cases hm
 refine d_shut (tag := 100303) rfl (fun φ581 q581' => ?_)
 have q581 : ∀ W, φ581 W → φ579 W := fun W h => (q581' W h).1
 have f582 := fun (W : World) (h : φ581 W) => (q581' W h).2
 exact d_retC (none, 0, A570, c571, A573, c574, A576, c577) Try.results9 (res_agg (tag := 100040) rfl rfl Try.isAgg26 Try.sizeOf26 (res_nil rfl)) ⟨(Nat.le_refl 0), hc571, hc574, hc577⟩ (fun W h => ok_pre (H1 := [_, _, _]) (R1 := []) h (fun W hφ => ⟨(q579 _ (q581 _ hφ)), (fun W _ => Cl.nil _ _) W hφ, (fun W h => f572 W (q581 _ h)) W hφ, (fun W h => f575 W (q581 _ h)) W hφ, (fun W h => f582 W h) W hφ⟩)) (.inr rfl)
noncomputable def m_law18_asked (p0 : ByteArray) (p1 : Int) : Option GMessage :=
  (m_law18_example).bind fun x2 =>
  (m_message_Query 7 (⟨p0, p1, 1⟩ : GQuestion)).bind fun x11 =>
  (m_auth_Answer [x2] x11).bind fun x28 =>
  some x28
theorem c_law18_asked {w0 : World} {M : Nat → Prop} {H : List (Nat × Nat × Obj)} {R : List (Nat × Row)} {φ : World → Prop} (p0 : ByteArray) (p1 : Int) (r : GMessage) (hm : m_law18_asked p0 p1 = some r) :
    Cn Try.prog 24 #[.string p0, .int .u16 p1] ⟨w0, M, H, R, φ⟩ (fun x : Option Addr × Nat × Option Addr × Nat × Option Addr × Nat × Option Addr × Nat => .agg #[.int .u16 r.fID, .bool r.fResponse, .bool r.fAuthoritative, .bool r.fTruncated, .bool r.fDesired, .bool r.fAvailable, .int .i64 r.fOpcode, .int .i64 r.fCode, .slice x.1 r.fQuestions.length x.2.1, .slice x.2.2.1 r.fAnswers.length x.2.2.2.1, .slice x.2.2.2.2.1 r.fAuthorities.length x.2.2.2.2.2.1, .slice x.2.2.2.2.2.2.1 r.fExtras.length x.2.2.2.2.2.2.2]) (fun x => r.fQuestions.length ≤ x.2.1 ∧ r.fAnswers.length ≤ x.2.2.2.1 ∧ r.fAuthorities.length ≤ x.2.2.2.2.2.1 ∧ r.fExtras.length ≤ x.2.2.2.2.2.2.2) (fun x => ⟨w0, M, H, R, fun W => φ W ∧ Cl W x.1 (r.fQuestions.flatMap GQuestion.enc) ∧ Cl W x.2.2.1 (r.fAnswers.flatMap GRR.enc) ∧ Cl W x.2.2.2.2.1 (r.fAuthorities.flatMap GRR.enc) ∧ Cl W x.2.2.2.2.2.2.1 (r.fExtras.flatMap GRR.enc)⟩) := by
 unfold m_law18_asked at hm
 refine cn_intro (fn := Try.f24) (N := 12) Try.func24 rfl Try.ntmps24 rfl <| c_seq <| c_region ?_
 refine g_e rfl (e_alloc 100040 Try.zeroValue26) (fun g1 _ => ?_)
 refine g_nil <| d_then <| c_seq <| c_region ?_
 replace hm := bnd hm
 obtain ⟨x2, hx3, hm⟩ := hm
 refine g_cn ⟨w0, M, _, _, φ⟩ (fun _ h => h) Try.call10 rfl rfl (c_law18_example  _ hx3) (fun ⟨A4, c5⟩ hc5 => ?_)
 refine g_abs (fun φ7 q7' => ?_)
 have q7 : ∀ W, φ7 W → φ W := fun W h => (q7' W h).1
 have f6 := fun (W : World) (h : φ7 W) => (q7' W h).2
 have hk9 := (DOk.cons (cap := GZone.capP) (x := x2) (p := (⟨A4, c5⟩ : GZoneP)) (hc5) DOk.nil)
 have f10 := fun (W : World) (h : φ7 W) => (DOwn.cons (own := GZone.ownP) (x := x2) (p := (⟨A4, c5⟩ : GZoneP)) (f6 W h) DOwn.nil)
 refine g_e rfl (e_litD (tag := 100060) (enc := GZone.encP) (sz := 2) hk9 rfl Try.underlying35 (lit33_4 _ _ _ _) rfl rfl (fun _ => rfl)) (fun g8 _ => ?_)
 refine g_v rfl r_move <| g_v rfl r_move <| g_v rfl (r_build _ rfl (bld29_5 _ _ _)) ?_
 replace hm := bnd hm
 obtain ⟨x11, hx12, hm⟩ := hm
 refine g_cn ⟨w0, M, _, _, φ7⟩ (fun _ h => h) Try.call13 rfl rfl (c_message_Query 7 (⟨p0, p1, 1⟩ : GQuestion) _ hx12) (fun ⟨A13, c14, A16, c17, A19, c20, A22, c23⟩ ⟨hc14, hc17, hc20, hc23⟩ => ?_)
 refine g_abs (fun φ25 q25' => ?_)
 have q25 : ∀ W, φ25 W → φ7 W := fun W h => (q25' W h).1
 have f15 := fun (W : World) (h : φ25 W) => (q25' W h).2.1
 have f18 := fun (W : World) (h : φ25 W) => (q25' W h).2.2.1
 have f21 := fun (W : World) (h : φ25 W) => (q25' W h).2.2.2.1
 have f24 := fun (W : World) (h : φ25 W) => (q25' W h).2.2.2.2
 refine g_shut (tag := 100060) rfl (fun φ26 q26' => ?_)
 have q26 : ∀ W, φ26 W → φ25 W := fun W h => (q26' W h).1
 have f27 := fun (W : World) (h : φ26 W) => (q26' W h).2
 replace hm := bnd hm
 obtain ⟨x28, hx29, hm⟩ := hm
 refine g_cn ⟨w0, M, _, _, φ26⟩ (fun _ h => h) Try.call9 rfl rfl (c_auth_Answer [x2] (some ⟨g8, 0, none⟩) 1 [(⟨A4, c5⟩ : GZoneP)] ⟨hk9, (Nat.le_refl _)⟩ (fun W h => f27 W h) (fun W h => (f10 W (q25 _ (q26 _ h)))) x11 A13 c14 hc14 (fun W hS => f15 W (q26 _ hS.now)) A16 c17 hc17 (fun W hS => f18 W (q26 _ hS.now)) A19 c20 hc20 (fun W hS => f21 W (q26 _ hS.now)) A22 c23 hc23 (fun W hS => f24 W (q26 _ hS.now)) _ hx29) (fun ⟨A30, c31, A33, c34, A36, c37, A39, c40⟩ ⟨hc31, hc34, hc37, hc40⟩ => ?_)
 refine g_abs (fun φ42 q42' => ?_)
 have q42 : ∀ W, φ42 W → φ26 W := fun W h => (q42' W h).1
 have f32 := fun (W : World) (h : φ42 W) => (q42' W h).2.1
 have f35 := fun (W : World) (h : φ42 W) => (q42' W h).2.2.1
 have f38 := fun (W : World) (h : φ42 W) => (q42' W h).2.2.2.1
 have f41 := fun (W : World) (h : φ42 W) => (q42' W h).2.2.2.2
 refine g_storeL (tag := 100040) rfl rfl rfl rfl Try.sizeOf26 rfl rfl <| g_nil <| d_then ?_
 refine c_flat [(4, .pointer (some ⟨g1, 0, none⟩))] ⟨rfl, trivial⟩ (fun u => ?_)
 refine c_sta ⟨w0, M, (100040, g1, .cells #[.int .u16 x28.fID, .bool x28.fResponse, .bool x28.fAuthoritative, .bool x28.fTruncated, .bool x28.fDesired, .bool x28.fAvailable, .int .i64 x28.fOpcode, .int .i64 x28.fCode, .slice A30 x28.fQuestions.length c31, .slice A33 x28.fAnswers.length c34, .slice A36 x28.fAuthorities.length c37, .slice A39 x28.fExtras.length c40] 26 (0, 0)) :: H, R, φ42⟩ (fun _ h => h) <| c_ret ?_
 cases hm
 exact d_retC (A30, c31, A33, c34, A36, c37, A39, c40) Try.results24 (res_agg (tag := 100040) rfl rfl Try.isAgg26 Try.sizeOf26 (res_nil rfl)) ⟨hc31, hc34, hc37, hc40⟩ (fun W h => ok_pre (H1 := [_]) (R1 := []) h (fun W hφ => ⟨(q7 _ (q25 _ (q26 _ (q42 _ hφ)))), (fun W h => f32 W h) W hφ, (fun W h => f35 W h) W hφ, (fun W h => f38 W h) W hφ, (fun W h => f41 W h) W hφ⟩)) (.inr rfl)
noncomputable def m_law18_awake  : Option Bool :=
  (m_law18_asked (⟨#[3, 87, 87, 87, 1, 65, 0]⟩ : ByteArray) 1).bind fun x1 =>
  (m_law18_asked (⟨#[1, 120, 1, 98, 1, 97, 0]⟩ : ByteArray) 1).bind fun x17 =>
  (m_law18_asked (⟨#[3, 119, 119, 119, 1, 97, 0]⟩ : ByteArray) 15).bind fun x33 =>
  (m_law18_asked (⟨#[1, 113, 1, 97, 0]⟩ : ByteArray) 1).bind fun x49 =>
  (m_law18_example).bind fun x65 =>
  (m_auth_Check x65).bind fun x71 =>
  if x71 = 0 then
    if (x1.fAnswers.length : Int) = 1 then
      if x1.fAuthoritative = true then
        if x1.fID = 7 then
          if (x17.fAuthorities.length : Int) = 1 then
            if (x17.fExtras.length : Int) = 1 then
              if x17.fAuthoritative = true then
                some false
              else
                if (x33.fAuthorities.length : Int) = 1 then
                  if x33.fCode = 0 then
                    if (x49.fAuthorities.length : Int) = 1 then
                      some (decide (x49.fCode = 3))
                    else
                      some false
                  else
                    some false
                else
                  some false
            else
              some false
          else
            some false
        else
          some false
      else
        some false
    else
      some false
  else
    some false
theorem c_law18_awake {w0 : World} {M : Nat → Prop} {H : List (Nat × Nat × Obj)} {R : List (Nat × Row)} {φ : World → Prop}  (r : Bool) (hm : m_law18_awake = some r) :
    Cn Try.prog 7 #[] ⟨w0, M, H, R, φ⟩ (fun x : Unit => .bool r) (fun x => True) (fun x => ⟨w0, M, H, R, φ⟩) := by
 unfold m_law18_awake at hm
 refine cn_intro (fn := Try.f7) (N := 66) Try.func7 rfl Try.ntmps7 rfl <| c_seq <| c_region <| g_v rfl r_assign <| g_nil <| d_then <| c_seq <| c_region ?_
 replace hm := bnd hm
 obtain ⟨x1, hx2, hm⟩ := hm
 refine g_cn ⟨w0, M, _, _, φ⟩ (fun _ h => h) Try.call24 rfl rfl (c_law18_asked (⟨#[3, 87, 87, 87, 1, 65, 0]⟩ : ByteArray) 1 _ hx2) (fun ⟨A3, c4, A6, c7, A9, c10, A12, c13⟩ ⟨hc4, hc7, hc10, hc13⟩ => ?_)
 refine g_abs (fun φ15 q15' => ?_)
 have q15 : ∀ W, φ15 W → φ W := fun W h => (q15' W h).1
 have f5 := fun (W : World) (h : φ15 W) => (q15' W h).2.1
 have f8 := fun (W : World) (h : φ15 W) => (q15' W h).2.2.1
 have f11 := fun (W : World) (h : φ15 W) => (q15' W h).2.2.2.1
 have f14 := fun (W : World) (h : φ15 W) => (q15' W h).2.2.2.2
 refine g_e rfl (e_alloc 100010 Try.zeroValue26) (fun g16 _ => ?_)
 refine g_storeL (tag := 100010) rfl rfl rfl rfl Try.sizeOf26 rfl rfl <| g_nil <| d_then <| c_seq <| c_region ?_
 replace hm := bnd hm
 obtain ⟨x17, hx18, hm⟩ := hm
 refine g_cn ⟨w0, M, _, _, φ15⟩ (fun _ h => h) Try.call24 rfl rfl (c_law18_asked (⟨#[1, 120, 1, 98, 1, 97, 0]⟩ : ByteArray) 1 _ hx18) (fun ⟨A19, c20, A22, c23, A25, c26, A28, c29⟩ ⟨hc20, hc23, hc26, hc29⟩ => ?_)
 refine g_abs (fun φ31 q31' => ?_)
 have q31 : ∀ W, φ31 W → φ15 W := fun W h => (q31' W h).1
 have f21 := fun (W : World) (h : φ31 W) => (q31' W h).2.1
 have f24 := fun (W : World) (h : φ31 W) => (q31' W h).2.2.1
 have f27 := fun (W : World) (h : φ31 W) => (q31' W h).2.2.2.1
 have f30 := fun (W : World) (h : φ31 W) => (q31' W h).2.2.2.2
 refine g_e rfl (e_alloc 100020 Try.zeroValue26) (fun g32 _ => ?_)
 refine g_storeL (tag := 100020) rfl rfl rfl rfl Try.sizeOf26 rfl rfl <| g_nil <| d_then <| c_seq <| c_region ?_
 replace hm := bnd hm
 obtain ⟨x33, hx34, hm⟩ := hm
 refine g_cn ⟨w0, M, _, _, φ31⟩ (fun _ h => h) Try.call24 rfl rfl (c_law18_asked (⟨#[3, 119, 119, 119, 1, 97, 0]⟩ : ByteArray) 15 _ hx34) (fun ⟨A35, c36, A38, c39, A41, c42, A44, c45⟩ ⟨hc36, hc39, hc42, hc45⟩ => ?_)
 refine g_abs (fun φ47 q47' => ?_)
 have q47 : ∀ W, φ47 W → φ31 W := fun W h => (q47' W h).1
 have f37 := fun (W : World) (h : φ47 W) => (q47' W h).2.1
 have f40 := fun (W : World) (h : φ47 W) => (q47' W h).2.2.1
 have f43 := fun (W : World) (h : φ47 W) => (q47' W h).2.2.2.1
 have f46 := fun (W : World) (h : φ47 W) => (q47' W h).2.2.2.2
 refine g_e rfl (e_alloc 100030 Try.zeroValue26) (fun g48 _ => ?_)
 refine g_storeL (tag := 100030) rfl rfl rfl rfl Try.sizeOf26 rfl rfl <| g_nil <| d_then ?_
 refine c_flat [(1, .pointer (some ⟨g16, 0, none⟩)), (2, .pointer (some ⟨g32, 0, none⟩)), (3, .pointer (some ⟨g48, 0, none⟩))] ⟨rfl, rfl, rfl, trivial⟩ (fun u => ?_)
 refine c_sta ⟨w0, M, (100030, g48, .cells #[.int .u16 x33.fID, .bool x33.fResponse, .bool x33.fAuthoritative, .bool x33.fTruncated, .bool x33.fDesired, .bool x33.fAvailable, .int .i64 x33.fOpcode, .int .i64 x33.fCode, .slice A35 x33.fQuestions.length c36, .slice A38 x33.fAnswers.length c39, .slice A41 x33.fAuthorities.length c42, .slice A44 x33.fExtras.length c45] 26 (0, 0)) :: (100020, g32, .cells #[.int .u16 x17.fID, .bool x17.fResponse, .bool x17.fAuthoritative, .bool x17.fTruncated, .bool x17.fDesired, .bool x17.fAvailable, .int .i64 x17.fOpcode, .int .i64 x17.fCode, .slice A19 x17.fQuestions.length c20, .slice A22 x17.fAnswers.length c23, .slice A25 x17.fAuthorities.length c26, .slice A28 x17.fExtras.length c29] 26 (0, 0)) :: (100010, g16, .cells #[.int .u16 x1.fID, .bool x1.fResponse, .bool x1.fAuthoritative, .bool x1.fTruncated, .bool x1.fDesired, .bool x1.fAvailable, .int .i64 x1.fOpcode, .int .i64 x1.fCode, .slice A3 x1.fQuestions.length c4, .slice A6 x1.fAnswers.length c7, .slice A9 x1.fAuthorities.length c10, .slice A12 x1.fExtras.length c13] 26 (0, 0)) :: H, R, φ47⟩ (fun _ h => h) <| c_seq <| c_region ?_
 replace hm := bnd hm
 obtain ⟨x49, hx50, hm⟩ := hm
 refine g_cn ⟨w0, M, _, _, φ47⟩ (fun _ h => h) Try.call24 rfl rfl (c_law18_asked (⟨#[1, 113, 1, 97, 0]⟩ : ByteArray) 1 _ hx50) (fun ⟨A51, c52, A54, c55, A57, c58, A60, c61⟩ ⟨hc52, hc55, hc58, hc61⟩ => ?_)
 refine g_abs (fun φ63 q63' => ?_)
 have q63 : ∀ W, φ63 W → φ47 W := fun W h => (q63' W h).1
 have f53 := fun (W : World) (h : φ63 W) => (q63' W h).2.1
 have f56 := fun (W : World) (h : φ63 W) => (q63' W h).2.2.1
 have f59 := fun (W : World) (h : φ63 W) => (q63' W h).2.2.2.1
 have f62 := fun (W : World) (h : φ63 W) => (q63' W h).2.2.2.2
 refine g_e rfl (e_alloc 100040 Try.zeroValue26) (fun g64 _ => ?_)
 refine g_storeL (tag := 100040) rfl rfl rfl rfl Try.sizeOf26 rfl rfl <| g_nil <| d_then <| c_seq <| c_region ?_
 replace hm := bnd hm
 obtain ⟨x65, hx66, hm⟩ := hm
 refine g_cn ⟨w0, M, _, _, φ63⟩ (fun _ h => h) Try.call10 rfl rfl (c_law18_example  _ hx66) (fun ⟨A67, c68⟩ hc68 => ?_)
 refine g_abs (fun φ70 q70' => ?_)
 have q70 : ∀ W, φ70 W → φ63 W := fun W h => (q70' W h).1
 have f69 := fun (W : World) (h : φ70 W) => (q70' W h).2
 replace hm := bnd hm
 obtain ⟨x71, hx72, hm⟩ := hm
 refine g_cn ⟨w0, M, _, _, φ70⟩ (fun _ h => h) Try.call12 rfl rfl (c_auth_Check x65 A67 c68 hc68 (fun W h => f69 W h) _ hx72) (fun _ _ => ?_)
 refine g_v rfl (r_eql rfl rfl) <| g_v rfl r_move <| g_sta ⟨w0, M, (100040, g64, .cells #[.int .u16 x49.fID, .bool x49.fResponse, .bool x49.fAuthoritative, .bool x49.fTruncated, .bool x49.fDesired, .bool x49.fAvailable, .int .i64 x49.fOpcode, .int .i64 x49.fCode, .slice A51 x49.fQuestions.length c52, .slice A54 x49.fAnswers.length c55, .slice A57 x49.fAuthorities.length c58, .slice A60 x49.fExtras.length c61] 26 (0, 0)) :: (100030, g48, .cells #[.int .u16 x33.fID, .bool x33.fResponse, .bool x33.fAuthoritative, .bool x33.fTruncated, .bool x33.fDesired, .bool x33.fAvailable, .int .i64 x33.fOpcode, .int .i64 x33.fCode, .slice A35 x33.fQuestions.length c36, .slice A38 x33.fAnswers.length c39, .slice A41 x33.fAuthorities.length c42, .slice A44 x33.fExtras.length c45] 26 (0, 0)) :: (100020, g32, .cells #[.int .u16 x17.fID, .bool x17.fResponse, .bool x17.fAuthoritative, .bool x17.fTruncated, .bool x17.fDesired, .bool x17.fAvailable, .int .i64 x17.fOpcode, .int .i64 x17.fCode, .slice A19 x17.fQuestions.length c20, .slice A22 x17.fAnswers.length c23, .slice A25 x17.fAuthorities.length c26, .slice A28 x17.fExtras.length c29] 26 (0, 0)) :: (100010, g16, .cells #[.int .u16 x1.fID, .bool x1.fResponse, .bool x1.fAuthoritative, .bool x1.fTruncated, .bool x1.fDesired, .bool x1.fAvailable, .int .i64 x1.fOpcode, .int .i64 x1.fCode, .slice A3 x1.fQuestions.length c4, .slice A6 x1.fAnswers.length c7, .slice A9 x1.fAuthorities.length c10, .slice A12 x1.fExtras.length c13] 26 (0, 0)) :: H, R, φ70⟩ (fun _ h => h) ?_
 refine g_if rfl rfl rfl rfl rfl (fun h73 => ?_) (fun h73 => ?_)
 ·
  replace hm := ite_t hm (of_decide_eq_true h73)
  refine g_v rfl (r_field (n := 9) Try.underlying26 rfl Try.sizeOf24 rfl rfl) <| g_do rfl rfl rfl rfl rfl h73 <| g_v rfl (r_load (tag := 100010) rfl rfl rfl Try.isAgg24) <| g_do rfl rfl rfl rfl rfl h73 <| g_v rfl (r_lenL Try.underlying24 rfl) <| g_do rfl rfl rfl rfl rfl h73 <| g_v rfl (r_eql rfl rfl) <| g_v rfl (r_pick1 rfl h73) <| g_v rfl r_move ?_
  refine g_if rfl rfl rfl rfl rfl (fun h74 => ?_) (fun h74 => ?_)
  ·
   replace hm := ite_t hm (of_decide_eq_true h74)
   refine g_v rfl (r_field (n := 2) Try.underlying26 rfl Try.sizeOf4 rfl rfl) <| g_do rfl rfl rfl rfl rfl h74 <| g_v rfl (r_load (tag := 100010) rfl rfl rfl Try.isAgg4) <| g_v rfl (r_pick1 rfl h74) <| g_v rfl r_move ?_
   refine g_if rfl rfl rfl rfl rfl (fun h75 => ?_) (fun h75 => ?_)
   ·
    replace hm := ite_t hm h75
    refine g_v rfl (r_field (n := 0) Try.underlying26 rfl Try.sizeOf22 rfl rfl) <| g_do rfl rfl rfl rfl rfl h75 <| g_v rfl (r_load (tag := 100010) rfl rfl rfl Try.isAgg22) <| g_do rfl rfl rfl rfl rfl h75 <| g_v rfl (r_eql rfl rfl) <| g_v rfl (r_pick1 rfl h75) <| g_v rfl r_move ?_
    refine g_if rfl rfl rfl rfl rfl (fun h76 => ?_) (fun h76 => ?_)
    ·
     replace hm := ite_t hm (of_decide_eq_true h76)
     refine g_v rfl (r_field (n := 10) Try.underlying26 rfl Try.sizeOf24 rfl rfl) <| g_do rfl rfl rfl rfl rfl h76 <| g_v rfl (r_load (tag := 100020) rfl rfl rfl Try.isAgg24) <| g_do rfl rfl rfl rfl rfl h76 <| g_v rfl (r_lenL Try.underlying24 rfl) <| g_do rfl rfl rfl rfl rfl h76 <| g_v rfl (r_eql rfl rfl) <| g_v rfl (r_pick1 rfl h76) <| g_v rfl r_move ?_
     refine g_if rfl rfl rfl rfl rfl (fun h77 => ?_) (fun h77 => ?_)
     ·
      replace hm := ite_t hm (of_decide_eq_true h77)
      refine g_v rfl (r_field (n := 11) Try.underlying26 rfl Try.sizeOf24 rfl rfl) <| g_do rfl rfl rfl rfl rfl h77 <| g_v rfl (r_load (tag := 100020) rfl rfl rfl Try.isAgg24) <| g_do rfl rfl rfl rfl rfl h77 <| g_v rfl (r_lenL Try.underlying24 rfl) <| g_do rfl rfl rfl rfl rfl h77 <| g_v rfl (r_eql rfl rfl) <| g_v rfl (r_pick1 rfl h77) <| g_v rfl r_move ?_
      refine g_if rfl rfl rfl rfl rfl (fun h78 => ?_) (fun h78 => ?_)
      ·
       replace hm := ite_t hm (of_decide_eq_true h78)
       refine g_v rfl (r_field (n := 2) Try.underlying26 rfl Try.sizeOf4 rfl rfl) <| g_do rfl rfl rfl rfl rfl h78 <| g_v rfl (r_load (tag := 100020) rfl rfl rfl Try.isAgg4) <| g_do rfl rfl rfl rfl rfl h78 <| g_v rfl (r_not rfl) <| g_v rfl (r_pick1 rfl h78) <| g_v rfl r_move ?_
       refine g_if rfl rfl rfl rfl rfl (fun h79 => ?_) (fun h79 => ?_)
       ·
        have h79' : x17.fAuthoritative = false := by revert h79; cases x17.fAuthoritative <;> simp
        replace hm := ite_f hm (bool_nt h79')
        refine g_v rfl (r_field (n := 10) Try.underlying26 rfl Try.sizeOf24 rfl rfl) <| g_do rfl rfl rfl rfl rfl h79 <| g_v rfl (r_load (tag := 100030) rfl rfl rfl Try.isAgg24) <| g_do rfl rfl rfl rfl rfl h79 <| g_v rfl (r_lenL Try.underlying24 rfl) <| g_do rfl rfl rfl rfl rfl h79 <| g_v rfl (r_eql rfl rfl) <| g_v rfl (r_pick1 rfl h79) <| g_v rfl r_move ?_
        refine g_if rfl rfl rfl rfl rfl (fun h80 => ?_) (fun h80 => ?_)
        ·
         replace hm := ite_t hm (of_decide_eq_true h80)
         refine g_v rfl (r_field (n := 7) Try.underlying26 rfl Try.sizeOf3 rfl rfl) <| g_do rfl rfl rfl rfl rfl h80 <| g_v rfl (r_load (tag := 100030) rfl rfl rfl Try.isAgg3) <| g_do rfl rfl rfl rfl rfl h80 <| g_v rfl (r_eql rfl rfl) <| g_v rfl (r_pick1 rfl h80) <| g_v rfl r_move ?_
         refine g_if rfl rfl rfl rfl rfl (fun h81 => ?_) (fun h81 => ?_)
         ·
          replace hm := ite_t hm (of_decide_eq_true h81)
          refine g_v rfl (r_field (n := 10) Try.underlying26 rfl Try.sizeOf24 rfl rfl) <| g_do rfl rfl rfl rfl rfl h81 <| g_v rfl (r_load (tag := 100040) rfl rfl rfl Try.isAgg24) <| g_do rfl rfl rfl rfl rfl h81 <| g_v rfl (r_lenL Try.underlying24 rfl) <| g_do rfl rfl rfl rfl rfl h81 <| g_v rfl (r_eql rfl rfl) <| g_v rfl (r_pick1 rfl h81) <| g_v rfl r_move ?_
          refine g_if rfl rfl rfl rfl rfl (fun h82 => ?_) (fun h82 => ?_)
          ·
           replace hm := ite_t hm (of_decide_eq_true h82)
           refine g_v rfl (r_field (n := 7) Try.underlying26 rfl Try.sizeOf3 rfl rfl) <| g_do rfl rfl rfl rfl rfl h82 <| g_v rfl (r_load (tag := 100040) rfl rfl rfl Try.isAgg3) <| g_do rfl rfl rfl rfl rfl h82 <| g_v rfl (r_eql rfl rfl) <| g_v rfl (r_pick1 rfl h82) <| g_v rfl r_assign <| g_nil <| d_then ?_
           refine c_flat [(0, .bool (decide (x49.fCode = 3)))] ⟨rfl, trivial⟩ (fun u => ?_)
           refine c_ret ?_
           cases hm
           exact d_retC () Try.results7 (res_tmp (res_nil rfl)) trivial (fun W h => ok_pre (H1 := [_, _, _, _]) (R1 := []) h (fun W hφ => (q15 _ (q31 _ (q47 _ (q63 _ (q70 _ hφ))))))) (.inr rfl)
          replace hm := ite_f hm (of_decide_eq_false h82)
          refine g_no rfl rfl rfl rfl rfl h82 <| g_no rfl rfl rfl rfl rfl h82 <| g_v rfl (r_pick0 rfl h82) <| g_v rfl r_assign <| g_nil <| d_then ?_
          refine c_flat [(0, .bool false)] ⟨rfl, trivial⟩ (fun u => ?_)
          refine c_ret ?_
          cases hm
          exact d_retC () Try.results7 (res_tmp (res_nil rfl)) trivial (fun W h => ok_pre (H1 := [_, _, _, _]) (R1 := []) h (fun W hφ => (q15 _ (q31 _ (q47 _ (q63 _ (q70 _ hφ))))))) (.inr rfl)
         replace hm := ite_f hm (of_decide_eq_false h81)
         iterate 3 refine g_no rfl rfl rfl rfl rfl h81 ?_
         refine g_v rfl (r_pick0 rfl h81) <| g_v rfl r_move ?_
         iterate 3 refine g_no rfl rfl rfl rfl rfl rfl ?_
         refine g_v rfl (r_pick0 rfl rfl) <| g_v rfl r_assign <| g_nil <| d_then ?_
         refine c_flat [(0, .bool false)] ⟨rfl, trivial⟩ (fun u => ?_)
         refine c_ret ?_
         cases hm
         exact d_retC () Try.results7 (res_tmp (res_nil rfl)) trivial (fun W h => ok_pre (H1 := [_, _, _, _]) (R1 := []) h (fun W hφ => (q15 _ (q31 _ (q47 _ (q63 _ (q70 _ hφ))))))) (.inr rfl)
        replace hm := ite_f hm (of_decide_eq_false h80)
        refine g_no rfl rfl rfl rfl rfl h80 <| g_no rfl rfl rfl rfl rfl h80 <| g_v rfl (r_pick0 rfl h80) <| g_v rfl r_move ?_
        iterate 4 refine g_no rfl rfl rfl rfl rfl rfl ?_
        refine g_v rfl (r_pick0 rfl rfl) <| g_v rfl r_move ?_
        iterate 3 refine g_no rfl rfl rfl rfl rfl rfl ?_
        refine g_v rfl (r_pick0 rfl rfl) <| g_v rfl r_assign <| g_nil <| d_then ?_
        refine c_flat [(0, .bool false)] ⟨rfl, trivial⟩ (fun u => ?_)
        refine c_ret ?_
        cases hm
        exact d_retC () Try.results7 (res_tmp (res_nil rfl)) trivial (fun W h => ok_pre (H1 := [_, _, _, _]) (R1 := []) h (fun W hφ => (q15 _ (q31 _ (q47 _ (q63 _ (q70 _ hφ))))))) (.inr rfl)
       have h79' : x17.fAuthoritative = true := by revert h79; cases x17.fAuthoritative <;> simp
       replace hm := ite_t hm h79'
       iterate 3 refine g_no rfl rfl rfl rfl rfl h79 ?_
       refine g_v rfl (r_pick0 rfl h79) <| g_v rfl r_move ?_
       iterate 3 refine g_no rfl rfl rfl rfl rfl rfl ?_
       refine g_v rfl (r_pick0 rfl rfl) <| g_v rfl r_move ?_
       iterate 4 refine g_no rfl rfl rfl rfl rfl rfl ?_
       refine g_v rfl (r_pick0 rfl rfl) <| g_v rfl r_move ?_
       iterate 3 refine g_no rfl rfl rfl rfl rfl rfl ?_
       refine g_v rfl (r_pick0 rfl rfl) <| g_v rfl r_assign <| g_nil <| d_then ?_
       refine c_flat [(0, .bool false)] ⟨rfl, trivial⟩ (fun u => ?_)
       refine c_ret ?_
       cases hm
       exact d_retC () Try.results7 (res_tmp (res_nil rfl)) trivial (fun W h => ok_pre (H1 := [_, _, _, _]) (R1 := []) h (fun W hφ => (q15 _ (q31 _ (q47 _ (q63 _ (q70 _ hφ))))))) (.inr rfl)
      replace hm := ite_f hm (of_decide_eq_false h78)
      refine g_no rfl rfl rfl rfl rfl h78 <| g_no rfl rfl rfl rfl rfl h78 <| g_v rfl (r_pick0 rfl h78) <| g_v rfl r_move ?_
      iterate 4 refine g_no rfl rfl rfl rfl rfl rfl ?_
      refine g_v rfl (r_pick0 rfl rfl) <| g_v rfl r_move ?_
      iterate 3 refine g_no rfl rfl rfl rfl rfl rfl ?_
      refine g_v rfl (r_pick0 rfl rfl) <| g_v rfl r_move ?_
      iterate 4 refine g_no rfl rfl rfl rfl rfl rfl ?_
      refine g_v rfl (r_pick0 rfl rfl) <| g_v rfl r_move ?_
      iterate 3 refine g_no rfl rfl rfl rfl rfl rfl ?_
      refine g_v rfl (r_pick0 rfl rfl) <| g_v rfl r_assign <| g_nil <| d_then ?_
      refine c_flat [(0, .bool false)] ⟨rfl, trivial⟩ (fun u => ?_)
      refine c_ret ?_
      cases hm
      exact d_retC () Try.results7 (res_tmp (res_nil rfl)) trivial (fun W h => ok_pre (H1 := [_, _, _, _]) (R1 := []) h (fun W hφ => (q15 _ (q31 _ (q47 _ (q63 _ (q70 _ hφ))))))) (.inr rfl)
     replace hm := ite_f hm (of_decide_eq_false h77)
     iterate 3 refine g_no rfl rfl rfl rfl rfl h77 ?_
     refine g_v rfl (r_pick0 rfl h77) <| g_v rfl r_move ?_
     iterate 3 refine g_no rfl rfl rfl rfl rfl rfl ?_
     refine g_v rfl (r_pick0 rfl rfl) <| g_v rfl r_move ?_
     iterate 4 refine g_no rfl rfl rfl rfl rfl rfl ?_
     refine g_v rfl (r_pick0 rfl rfl) <| g_v rfl r_move ?_
     iterate 3 refine g_no rfl rfl rfl rfl rfl rfl ?_
     refine g_v rfl (r_pick0 rfl rfl) <| g_v rfl r_move ?_
     iterate 4 refine g_no rfl rfl rfl rfl rfl rfl ?_
     refine g_v rfl (r_pick0 rfl rfl) <| g_v rfl r_move ?_
     iterate 3 refine g_no rfl rfl rfl rfl rfl rfl ?_
     refine g_v rfl (r_pick0 rfl rfl) <| g_v rfl r_assign <| g_nil <| d_then ?_
     refine c_flat [(0, .bool false)] ⟨rfl, trivial⟩ (fun u => ?_)
     refine c_ret ?_
     cases hm
     exact d_retC () Try.results7 (res_tmp (res_nil rfl)) trivial (fun W h => ok_pre (H1 := [_, _, _, _]) (R1 := []) h (fun W hφ => (q15 _ (q31 _ (q47 _ (q63 _ (q70 _ hφ))))))) (.inr rfl)
    replace hm := ite_f hm (of_decide_eq_false h76)
    iterate 3 refine g_no rfl rfl rfl rfl rfl h76 ?_
    refine g_v rfl (r_pick0 rfl h76) <| g_v rfl r_move ?_
    iterate 4 refine g_no rfl rfl rfl rfl rfl rfl ?_
    refine g_v rfl (r_pick0 rfl rfl) <| g_v rfl r_move ?_
    iterate 3 refine g_no rfl rfl rfl rfl rfl rfl ?_
    refine g_v rfl (r_pick0 rfl rfl) <| g_v rfl r_move ?_
    iterate 4 refine g_no rfl rfl rfl rfl rfl rfl ?_
    refine g_v rfl (r_pick0 rfl rfl) <| g_v rfl r_move ?_
    iterate 3 refine g_no rfl rfl rfl rfl rfl rfl ?_
    refine g_v rfl (r_pick0 rfl rfl) <| g_v rfl r_move ?_
    iterate 4 refine g_no rfl rfl rfl rfl rfl rfl ?_
    refine g_v rfl (r_pick0 rfl rfl) <| g_v rfl r_move ?_
    iterate 3 refine g_no rfl rfl rfl rfl rfl rfl ?_
    refine g_v rfl (r_pick0 rfl rfl) <| g_v rfl r_assign <| g_nil <| d_then ?_
    refine c_flat [(0, .bool false)] ⟨rfl, trivial⟩ (fun u => ?_)
    refine c_ret ?_
    cases hm
    exact d_retC () Try.results7 (res_tmp (res_nil rfl)) trivial (fun W h => ok_pre (H1 := [_, _, _, _]) (R1 := []) h (fun W hφ => (q15 _ (q31 _ (q47 _ (q63 _ (q70 _ hφ))))))) (.inr rfl)
   replace hm := ite_f hm (bool_nt h75)
   refine g_no rfl rfl rfl rfl rfl h75 <| g_no rfl rfl rfl rfl rfl h75 <| g_v rfl (r_pick0 rfl h75) <| g_v rfl r_move ?_
   iterate 4 refine g_no rfl rfl rfl rfl rfl rfl ?_
   refine g_v rfl (r_pick0 rfl rfl) <| g_v rfl r_move ?_
   iterate 4 refine g_no rfl rfl rfl rfl rfl rfl ?_
   refine g_v rfl (r_pick0 rfl rfl) <| g_v rfl r_move ?_
   iterate 3 refine g_no rfl rfl rfl rfl rfl rfl ?_
   refine g_v rfl (r_pick0 rfl rfl) <| g_v rfl r_move ?_
   iterate 4 refine g_no rfl rfl rfl rfl rfl rfl ?_
   refine g_v rfl (r_pick0 rfl rfl) <| g_v rfl r_move ?_
   iterate 3 refine g_no rfl rfl rfl rfl rfl rfl ?_
   refine g_v rfl (r_pick0 rfl rfl) <| g_v rfl r_move ?_
   iterate 4 refine g_no rfl rfl rfl rfl rfl rfl ?_
   refine g_v rfl (r_pick0 rfl rfl) <| g_v rfl r_move ?_
   iterate 3 refine g_no rfl rfl rfl rfl rfl rfl ?_
   refine g_v rfl (r_pick0 rfl rfl) <| g_v rfl r_assign <| g_nil <| d_then ?_
   refine c_flat [(0, .bool false)] ⟨rfl, trivial⟩ (fun u => ?_)
   refine c_ret ?_
   cases hm
   exact d_retC () Try.results7 (res_tmp (res_nil rfl)) trivial (fun W h => ok_pre (H1 := [_, _, _, _]) (R1 := []) h (fun W hφ => (q15 _ (q31 _ (q47 _ (q63 _ (q70 _ hφ))))))) (.inr rfl)
  replace hm := ite_f hm (of_decide_eq_false h74)
  refine g_no rfl rfl rfl rfl rfl h74 <| g_v rfl (r_pick0 rfl h74) <| g_v rfl r_move ?_
  iterate 3 refine g_no rfl rfl rfl rfl rfl rfl ?_
  refine g_v rfl (r_pick0 rfl rfl) <| g_v rfl r_move ?_
  iterate 4 refine g_no rfl rfl rfl rfl rfl rfl ?_
  refine g_v rfl (r_pick0 rfl rfl) <| g_v rfl r_move ?_
  iterate 4 refine g_no rfl rfl rfl rfl rfl rfl ?_
  refine g_v rfl (r_pick0 rfl rfl) <| g_v rfl r_move ?_
  iterate 3 refine g_no rfl rfl rfl rfl rfl rfl ?_
  refine g_v rfl (r_pick0 rfl rfl) <| g_v rfl r_move ?_
  iterate 4 refine g_no rfl rfl rfl rfl rfl rfl ?_
  refine g_v rfl (r_pick0 rfl rfl) <| g_v rfl r_move ?_
  iterate 3 refine g_no rfl rfl rfl rfl rfl rfl ?_
  refine g_v rfl (r_pick0 rfl rfl) <| g_v rfl r_move ?_
  iterate 4 refine g_no rfl rfl rfl rfl rfl rfl ?_
  refine g_v rfl (r_pick0 rfl rfl) <| g_v rfl r_move ?_
  iterate 3 refine g_no rfl rfl rfl rfl rfl rfl ?_
  refine g_v rfl (r_pick0 rfl rfl) <| g_v rfl r_assign <| g_nil <| d_then ?_
  refine c_flat [(0, .bool false)] ⟨rfl, trivial⟩ (fun u => ?_)
  refine c_ret ?_
  cases hm
  exact d_retC () Try.results7 (res_tmp (res_nil rfl)) trivial (fun W h => ok_pre (H1 := [_, _, _, _]) (R1 := []) h (fun W hφ => (q15 _ (q31 _ (q47 _ (q63 _ (q70 _ hφ))))))) (.inr rfl)
 replace hm := ite_f hm (of_decide_eq_false h73)
 iterate 3 refine g_no rfl rfl rfl rfl rfl h73 ?_
 refine g_v rfl (r_pick0 rfl h73) <| g_v rfl r_move <| g_no rfl rfl rfl rfl rfl rfl <| g_no rfl rfl rfl rfl rfl rfl <| g_v rfl (r_pick0 rfl rfl) <| g_v rfl r_move ?_
 iterate 3 refine g_no rfl rfl rfl rfl rfl rfl ?_
 refine g_v rfl (r_pick0 rfl rfl) <| g_v rfl r_move ?_
 iterate 4 refine g_no rfl rfl rfl rfl rfl rfl ?_
 refine g_v rfl (r_pick0 rfl rfl) <| g_v rfl r_move ?_
 iterate 4 refine g_no rfl rfl rfl rfl rfl rfl ?_
 refine g_v rfl (r_pick0 rfl rfl) <| g_v rfl r_move ?_
 iterate 3 refine g_no rfl rfl rfl rfl rfl rfl ?_
 refine g_v rfl (r_pick0 rfl rfl) <| g_v rfl r_move ?_
 iterate 4 refine g_no rfl rfl rfl rfl rfl rfl ?_
 refine g_v rfl (r_pick0 rfl rfl) <| g_v rfl r_move ?_
 iterate 3 refine g_no rfl rfl rfl rfl rfl rfl ?_
 refine g_v rfl (r_pick0 rfl rfl) <| g_v rfl r_move ?_
 iterate 4 refine g_no rfl rfl rfl rfl rfl rfl ?_
 refine g_v rfl (r_pick0 rfl rfl) <| g_v rfl r_move ?_
 iterate 3 refine g_no rfl rfl rfl rfl rfl rfl ?_
 refine g_v rfl (r_pick0 rfl rfl) <| g_v rfl r_assign <| g_nil <| d_then ?_
 refine c_flat [(0, .bool false)] ⟨rfl, trivial⟩ (fun u => ?_)
 refine c_ret ?_
 cases hm
 exact d_retC () Try.results7 (res_tmp (res_nil rfl)) trivial (fun W h => ok_pre (H1 := [_, _, _, _]) (R1 := []) h (fun W hφ => (q15 _ (q31 _ (q47 _ (q63 _ (q70 _ hφ))))))) (.inr rfl)
noncomputable def m_law18_short (p0 : ByteArray) (p1 : Int) : Option ByteArray :=
  if p1 < (p0.size : Int) then
    (scutHi p0 p1).bind fun s2 =>
    some s2
  else
    some p0
theorem c_law18_short {w0 : World} {M : Nat → Prop} {H : List (Nat × Nat × Obj)} {R : List (Nat × Row)} {φ : World → Prop} (p0 : ByteArray) (p1 : Int) (r : ByteArray) (hm : m_law18_short p0 p1 = some r) :
    Cn Try.prog 8 #[.string p0, .int .i64 p1] ⟨w0, M, H, R, φ⟩ (fun x : Unit => .string r) (fun x => True) (fun x => ⟨w0, M, H, R, φ⟩) := by
 unfold m_law18_short at hm
 refine cn_intro (fn := Try.f8) (N := 13) Try.func8 rfl Try.ntmps8 rfl <| c_seq <| c_region <| g_v rfl r_assign <| g_nil <| d_then <| c_seq <| c_seq <| c_region <| g_v rfl r_move ?_
 refine g_v rfl (r_len Try.underlying9 rfl) <| g_v rfl r_move <| g_v rfl (r_gtr rfl rfl) <| g_nil <| d_then ?_
 refine c_cond rfl (fun h1 => ?_) (fun h1 => ?_)
 ·
  replace hm := ite_t hm (of_decide_eq_true h1)
  refine c_seq <| c_region <| g_v rfl r_move <| g_v rfl r_move ?_
  replace hm := bnd hm
  obtain ⟨s2, hs2, hm⟩ := hm
  refine g_v rfl (r_scutHi Try.underlying9 rfl rfl hs2) <| g_v rfl r_assign <| g_nil <| d_then ?_
  refine c_flat [(4, .string s2)] ⟨rfl, trivial⟩ (fun u => ?_)
  refine c_sta ⟨w0, M, H, R, φ⟩ (fun _ h => h) <| c_ret <| d_ret_then ?_
  cases hm
  exact d_retC () Try.results8 (res_tmp (res_nil rfl)) trivial (fun W h => ok_pre (H1 := []) (R1 := []) h (fun W hφ => hφ)) (.inr rfl)
 replace hm := ite_f hm (of_decide_eq_false h1)
 refine c_skip <| d_then <| c_seq <| c_region <| g_v rfl r_move <| g_v rfl r_assign <| g_nil <| d_then <| c_ret ?_
 cases hm
 exact d_retC () Try.results8 (res_tmp (res_nil rfl)) trivial (fun W h => ok_pre (H1 := []) (R1 := []) h (fun W hφ => hφ)) (.inr rfl)
noncomputable def m_law18_AuthOdd_j4 (i577 : Int) (p0 : GMessage) (i583 : Int) (b578 : Bool) (b582 : Bool) (b580 : Bool) (b581 : Bool) (x2 : Bool) (i584 : Int) (l589 : List GRR) (l593 : List GRR) (l597 : List GRR) (l585 : List GQuestion) (i611 : Int) : Option Bool :=
  if i577 ≠ p0.fID then
    some false
  else
    if i583 ≠ p0.fOpcode then
      some false
    else
      if b578 = true then
        if b582 = true then
          some false
        else
          if b580 = true then
            some false
          else
            if (!(b581 == p0.fDesired)) = true then
              some false
            else
              if x2 = true then
                if i611 < 0 then
                  some true
                else
                  if i584 = i611 then
                    if w64 ((w64 ((l589.length : Int) + (l593.length : Int))) + (l597.length : Int)) = 0 then
                      some ((decide (i611 = 1)) == (decide ((l585.length : Int) = 0)))
                    else
                      some false
                  else
                    some false
              else
                some false
      else
        some false
noncomputable def m_law18_AuthOdd_j3 (p0 : GMessage) (x2 : Bool) (l98 : List GQuestion) (i577 : Int) (b578 : Bool) (b579 : Bool) (b580 : Bool) (b581 : Bool) (b582 : Bool) (i583 : Int) (i584 : Int) (l585 : List GQuestion) (l589 : List GRR) (l593 : List GRR) (l597 : List GRR) : Option Bool :=
  if p0.fResponse = true then
    m_law18_AuthOdd_j4 i577 p0 i583 b578 b582 b580 b581 x2 i584 l589 l593 l597 l585 1
  else
    if (l98.length : Int) ≠ 1 then
      m_law18_AuthOdd_j4 i577 p0 i583 b578 b582 b580 b581 x2 i584 l589 l593 l597 l585 1
    else
      if p0.fOpcode ≠ 0 then
        m_law18_AuthOdd_j4 i577 p0 i583 b578 b582 b580 b581 x2 i584 l589 l593 l597 l585 4
      else
        (at_ l98 0).bind fun x625 =>
        if x625.fClass ≠ 1 then
          m_law18_AuthOdd_j4 i577 p0 i583 b578 b582 b580 b581 x2 i584 l589 l593 l597 l585 5
        else
          m_law18_AuthOdd_j4 i577 p0 i583 b578 b582 b580 b581 x2 i584 l589 l593 l597 l585 (-1)
noncomputable def m_law18_AuthOdd_j2 (p0 : GMessage) (x2 : Bool) (l98 : List GQuestion) : Option Bool :=
  (m_law18_example).bind fun x821 =>
  (m_auth_Answer [x821] (⟨p0.fID, p0.fResponse, p0.fAuthoritative, p0.fTruncated, p0.fDesired, p0.fAvailable, p0.fOpcode, p0.fCode, l98, p0.fAnswers, p0.fAuthorities, p0.fExtras⟩ : GMessage)).bind fun x836 =>
  m_law18_AuthOdd_j3 p0 x2 l98 x836.fID x836.fResponse x836.fAuthoritative x836.fTruncated x836.fDesired x836.fAvailable x836.fOpcode x836.fCode x836.fQuestions x836.fAnswers x836.fAuthorities x836.fExtras
noncomputable def m_law18_AuthOdd_s5 (l7 : List GQuestion) (l932 : List GQuestion) (i935 : Int) : Option (((List GQuestion) × Int) ⊕ (List GQuestion)) :=
  if i935 < (l7.length : Int) then
    (at_ l7 i935).bind fun x954 =>
    (m_law18_short x954.fName 300).bind fun x959 =>
    (app 24 l932 [(⟨x959, x954.fType, x954.fClass⟩ : GQuestion)]).bind fun l962 =>
    some (.inl (l962, w64 (i935 + 1)))
  else
    some (.inr l932)
noncomputable def m_law18_AuthOdd_j1 (p0 : GMessage) (x2 : Bool) (l7 : List GQuestion) : Option Bool :=
  (loop (fun s => m_law18_AuthOdd_s5 l7 s.1 s.2) (([] : List GQuestion), 0)).bind fun e => m_law18_AuthOdd_j2 p0 x2 e
noncomputable def m_law18_AuthOdd (p0 : GMessage) : Option Bool :=
  (m_law18_awake).bind fun x2 =>
  if 5 < (p0.fQuestions.length : Int) then
    (cutHi p0.fQuestions 5).bind fun l968 =>
    m_law18_AuthOdd_j1 p0 x2 l968
  else
    m_law18_AuthOdd_j1 p0 x2 p0.fQuestions
theorem c_law18_AuthOdd {w0 : World} {M : Nat → Prop} {H : List (Nat × Nat × Obj)} {R : List (Nat × Row)} {φ : World → Prop} (p0 : GMessage) (Ap0_0 : Option Addr) (cp0_0 : Nat) (hcp0_0 : p0.fQuestions.length ≤ cp0_0) (fp0_0 : ∀ W, φ W → Cl W Ap0_0 (p0.fQuestions.flatMap GQuestion.enc)) (Ap0_1 : Option Addr) (cp0_1 : Nat) (hcp0_1 : p0.fAnswers.length ≤ cp0_1) (fp0_1 : ∀ W, (Sta.mk w0 M H R φ).ok W → Cl W Ap0_1 (p0.fAnswers.flatMap GRR.enc)) (Ap0_2 : Option Addr) (cp0_2 : Nat) (hcp0_2 : p0.fAuthorities.length ≤ cp0_2) (fp0_2 : ∀ W, (Sta.mk w0 M H R φ).ok W → Cl W Ap0_2 (p0.fAuthorities.flatMap GRR.enc)) (Ap0_3 : Option Addr) (cp0_3 : Nat) (hcp0_3 : p0.fExtras.length ≤ cp0_3) (fp0_3 : ∀ W, (Sta.mk w0 M H R φ).ok W → Cl W Ap0_3 (p0.fExtras.flatMap GRR.enc)) (r : Bool) (hm : m_law18_AuthOdd p0 = some r) :
    Cn Try.prog 3 #[.agg #[.int .u16 p0.fID, .bool p0.fResponse, .bool p0.fAuthoritative, .bool p0.fTruncated, .bool p0.fDesired, .bool p0.fAvailable, .int .i64 p0.fOpcode, .int .i64 p0.fCode, .slice Ap0_0 p0.fQuestions.length cp0_0, .slice Ap0_1 p0.fAnswers.length cp0_1, .slice Ap0_2 p0.fAuthorities.length cp0_2, .slice Ap0_3 p0.fExtras.length cp0_3]] ⟨w0, M, H, R, φ⟩ (fun x : Unit => .bool r) (fun x => True) (fun x => ⟨w0, M, H, R, φ⟩) := by
 unfold m_law18_AuthOdd at hm
 refine cn_intro (fn := Try.f3) (N := 125) Try.func3 rfl Try.ntmps3 rfl <| c_seq <| c_region ?_
 refine g_e rfl (e_box 100010 rfl) (fun g1 _ => ?_)
 refine g_v rfl r_assign <| g_nil <| d_then <| c_seq <| c_region ?_
 replace hm := bnd hm
 obtain ⟨x2, hx3, hm⟩ := hm
 refine g_cn ⟨w0, M, _, _, φ⟩ (fun _ h => h) Try.call7 rfl rfl (c_law18_awake  _ hx3) (fun _ _ => ?_)
 refine g_v rfl r_assign <| g_nil <| d_then <| c_seq ?_
 refine c_cut (ι := (List GQuestion) × Option Addr × Nat) [1, 3] (fun ⟨l7, A8, c9⟩ => []) (fun ⟨l7, A8, c9⟩ => ⟨w0, M, (100010, g1, .cells #[.int .u16 p0.fID, .bool p0.fResponse, .bool p0.fAuthoritative, .bool p0.fTruncated, .bool p0.fDesired, .bool p0.fAvailable, .int .i64 p0.fOpcode, .int .i64 p0.fCode, .slice A8 l7.length c9, .slice Ap0_1 p0.fAnswers.length cp0_1, .slice Ap0_2 p0.fAuthorities.length cp0_2, .slice Ap0_3 p0.fExtras.length cp0_3] 26 (0, 0)) :: H, R, fun W => φ W ∧ Cl W A8 (l7.flatMap GQuestion.enc)⟩) (fun ⟨l7, A8, c9⟩ => m_law18_AuthOdd_j1 p0 x2 l7 = some r ∧ l7.length ≤ c9) ?_ (fun ⟨l7, A8, c9⟩ u ⟨hm, hc9⟩ => ?_)
 ·
  refine c_seq <| c_region <| g_v rfl (r_field (n := 8) Try.underlying26 rfl Try.sizeOf23 rfl rfl) <| g_v rfl (r_load (tag := 100010) rfl rfl rfl Try.isAgg23) <| g_v rfl (r_lenL Try.underlying23 rfl) <| g_v rfl (r_gtr rfl rfl) <| g_nil <| d_then <| c_sta ⟨w0, M, (100010, g1, .cells #[.int .u16 p0.fID, .bool p0.fResponse, .bool p0.fAuthoritative, .bool p0.fTruncated, .bool p0.fDesired, .bool p0.fAvailable, .int .i64 p0.fOpcode, .int .i64 p0.fCode, .slice Ap0_0 p0.fQuestions.length cp0_0, .slice Ap0_1 p0.fAnswers.length cp0_1, .slice Ap0_2 p0.fAuthorities.length cp0_2, .slice Ap0_3 p0.fExtras.length cp0_3] 26 (0, 0)) :: H, R, φ⟩ (fun _ h => h) ?_
  refine c_cond rfl (fun h966 => ?_) (fun h966 => ?_)
  ·
   replace hm := ite_t hm (of_decide_eq_true h966)
   refine c_region <| g_v rfl (r_field (n := 8) Try.underlying26 rfl Try.sizeOf23 rfl rfl) <| g_v rfl (r_load (tag := 100010) rfl rfl rfl Try.isAgg23) ?_
   replace hm := bnd hm
   obtain ⟨l968, hl968, hm⟩ := hm
   have f967 := fun (W : World) (h : φ W) => cl_cutHi (enc := GQuestion.enc) (sz := 3) (fun _ => rfl) hl968 (fp0_0 W h)
   refine g_v rfl (r_lcutHi Try.underlying23 Try.sizeOf29 rfl hcp0_0 rfl hl968) <| g_v rfl (r_field (n := 8) Try.underlying26 rfl Try.sizeOf23 rfl rfl) <| g_storeL (tag := 100010) rfl rfl rfl rfl Try.sizeOf23 rfl rfl <| g_nil ?_
   exact d_round (l968, Ap0_0, cp0_0) ⟨hm, (cutHi_len hcp0_0 hl968)⟩ Nat.zero_lt_one ⟨rfl, rfl, trivial⟩ (fun W h => h.phi (fun W hφ => ⟨hφ, (fun W h => f967 W h) W hφ⟩))
  replace hm := ite_f hm (of_decide_eq_false h966)
  refine c_skip ?_
  exact d_round (p0.fQuestions, Ap0_0, cp0_0) ⟨hm, hcp0_0⟩ Nat.zero_lt_one ⟨rfl, rfl, trivial⟩ (fun W h => h.phi (fun W hφ => ⟨hφ, (fun W h => fp0_0 W h) W hφ⟩))
 unfold m_law18_AuthOdd_j1 at hm
 refine d_abs (fun φ11 q11' => ?_)
 have q11 : ∀ W, φ11 W → φ W := fun W h => (q11' W h).1
 have f10 := fun (W : World) (h : φ11 W) => (q11' W h).2
 refine d_flat [(1, .pointer (some ⟨g1, 0, none⟩)), (3, .bool x2)] ⟨rfl, rfl, trivial⟩ (fun u => ?_)
 refine d_sta ⟨w0, M, (100010, g1, .cells #[.int .u16 p0.fID, .bool p0.fResponse, .bool p0.fAuthoritative, .bool p0.fTruncated, .bool p0.fDesired, .bool p0.fAvailable, .int .i64 p0.fOpcode, .int .i64 p0.fCode, .slice A8 l7.length c9, .slice Ap0_1 p0.fAnswers.length cp0_1, .slice Ap0_2 p0.fAuthorities.length cp0_2, .slice Ap0_3 p0.fExtras.length cp0_3] 26 (0, 0)) :: H, R, φ11⟩ (fun _ h => h) <| d_then <| c_seq <| c_region <| g_v rfl r_assign <| g_nil <| d_then <| c_seq <| c_seq <| c_region ?_
 refine g_v rfl r_assign <| g_nil <| d_then <| c_sta _ (fun W h => nilR h 13 29 3) ?_
 refine c_cut (ι := (List GQuestion) × Option Addr × Nat) [1, 3, 4] (fun ⟨l98, A99, c100⟩ => [(4, .slice A99 l98.length c100)]) (fun ⟨l98, A99, c100⟩ => ⟨w0, M, (100010, g1, .cells #[.int .u16 p0.fID, .bool p0.fResponse, .bool p0.fAuthoritative, .bool p0.fTruncated, .bool p0.fDesired, .bool p0.fAvailable, .int .i64 p0.fOpcode, .int .i64 p0.fCode, .slice A8 l7.length c9, .slice Ap0_1 p0.fAnswers.length cp0_1, .slice Ap0_2 p0.fAuthorities.length cp0_2, .slice Ap0_3 p0.fExtras.length cp0_3] 26 (0, 0)) :: H, (13, ⟨.slice A99 l98.length c100, 29, 3, l98.length, l98.flatMap GQuestion.enc⟩) :: R, φ11⟩) (fun ⟨l98, A99, c100⟩ => m_law18_AuthOdd_j2 p0 x2 l98 = some r ∧ l98.length ≤ c100) ?_ (fun ⟨l98, A99, c100⟩ u ⟨hm, hc100⟩ => ?_)
 ·
  refine c_block ?_
  replace hm := bnd hm
  obtain ⟨out5, hl5, hr5⟩ := hm
  obtain ⟨n952', hl5⟩ := loop_lp hl5
  refine c_loopU (ι := Nat × (List GQuestion) × Int × Option Addr × Nat) [1, 3, 4, 5] (fun ⟨n952, l932, i935, A933, c934⟩ => [(4, .slice A933 l932.length c934), (5, .int .i64 i935)]) (fun ⟨n952, l932, i935, A933, c934⟩ => ⟨w0, M, (100010, g1, .cells #[.int .u16 p0.fID, .bool p0.fResponse, .bool p0.fAuthoritative, .bool p0.fTruncated, .bool p0.fDesired, .bool p0.fAvailable, .int .i64 p0.fOpcode, .int .i64 p0.fCode, .slice A8 l7.length c9, .slice Ap0_1 p0.fAnswers.length cp0_1, .slice Ap0_2 p0.fAuthorities.length cp0_2, .slice Ap0_3 p0.fExtras.length cp0_3] 26 (0, 0)) :: H, (13, ⟨.slice A933 l932.length c934, 29, 3, l932.length, l932.flatMap GQuestion.enc⟩) :: R, φ11⟩) (fun ⟨n952, l932, i935, A933, c934⟩ => Lp (fun s => m_law18_AuthOdd_s5 l7 s.1 s.2) n952 (l932, i935) out5 ∧ l932.length ≤ c934) (fun ⟨n952, l932, i935, A933, c934⟩ => n952) (n952', ([] : List GQuestion), 0, none, 0) ⟨hl5, (Nat.le_refl 0)⟩ ⟨rfl, rfl, rfl, rfl, trivial⟩ (fun W h => h.phi (fun W hφ => hφ)) (fun ⟨n952, l932, i935, A933, c934⟩ u ⟨hlp, hc934⟩ => ?_)
  obtain ⟨o5, hm, hnx5⟩ := lp_step hlp
  clear hlp
  replace hm : m_law18_AuthOdd_s5 l7 l932 i935 = some o5 := hm
  unfold m_law18_AuthOdd_s5 at hm
  refine c_flat [(1, .pointer (some ⟨g1, 0, none⟩)), (3, .bool x2), (4, .slice A933 l932.length c934), (5, .int .i64 i935)] ⟨rfl, rfl, rfl, rfl, trivial⟩ (fun u => ?_)
  refine c_sta ⟨w0, M, (100010, g1, .cells #[.int .u16 p0.fID, .bool p0.fResponse, .bool p0.fAuthoritative, .bool p0.fTruncated, .bool p0.fDesired, .bool p0.fAvailable, .int .i64 p0.fOpcode, .int .i64 p0.fCode, .slice A8 l7.length c9, .slice Ap0_1 p0.fAnswers.length cp0_1, .slice Ap0_2 p0.fAuthorities.length cp0_2, .slice Ap0_3 p0.fExtras.length cp0_3] 26 (0, 0)) :: H, (13, ⟨.slice A933 l932.length c934, 29, 3, l932.length, l932.flatMap GQuestion.enc⟩) :: R, φ11⟩ (fun _ h => h) <| c_seq <| c_seq <| c_region <| g_v rfl r_move <| g_v rfl (r_field (n := 8) Try.underlying26 rfl Try.sizeOf23 rfl rfl) <| g_v rfl (r_load (tag := 100010) rfl rfl rfl Try.isAgg23) <| g_v rfl (r_lenL Try.underlying23 rfl) <| g_v rfl (r_lss rfl rfl) <| g_nil ?_
  refine d_then ?_
  refine c_cond rfl (fun h953 => ?_) (fun h953 => ?_)
  ·
   replace hm := ite_t hm (of_decide_eq_true h953)
   refine c_skip <| d_then <| c_seq <| c_block <| c_seq <| c_region <| g_v rfl (r_field (n := 8) Try.underlying26 rfl Try.sizeOf23 rfl rfl) <| g_v rfl (r_load (tag := 100010) rfl rfl rfl Try.isAgg23) <| g_v rfl r_move ?_
   replace hm := bnd hm
   obtain ⟨x954, hx954, hm⟩ := hm
   refine g_know _ (fun W hS => cl_at (p := φ11) (sz := 3) (fun _ => rfl) (by decide) hS.now f10 hx954) ?_
   rintro ⟨ad955, hA957, f956⟩
   refine g_v rfl (r_ix Try.underlying23 Try.sizeOf29 rfl hA957 rfl hx954) <| g_v rfl (r_ldA rfl Try.isAgg29 Try.sizeOf29 (fun W hS => (f956 W hS.now).take 3) rfl) ?_
   refine g_e rfl (e_alloc 100060 Try.zeroValue29) (fun g958 _ => ?_)
   refine g_storeL (tag := 100060) rfl rfl rfl rfl Try.sizeOf29 rfl rfl <| g_nil <| d_then ?_
   refine c_flat [(1, .pointer (some ⟨g1, 0, none⟩)), (3, .bool x2), (4, .slice A933 l932.length c934), (5, .int .i64 i935), (6, .pointer (some ⟨g958, 0, none⟩))] ⟨rfl, rfl, rfl, rfl, rfl, trivial⟩ (fun u => ?_)
   refine c_sta ⟨w0, M, (100060, g958, .cells #[.string x954.fName, .int .u16 x954.fType, .int .u16 x954.fClass] 29 (0, 0)) :: (100010, g1, .cells #[.int .u16 p0.fID, .bool p0.fResponse, .bool p0.fAuthoritative, .bool p0.fTruncated, .bool p0.fDesired, .bool p0.fAvailable, .int .i64 p0.fOpcode, .int .i64 p0.fCode, .slice A8 l7.length c9, .slice Ap0_1 p0.fAnswers.length cp0_1, .slice Ap0_2 p0.fAuthorities.length cp0_2, .slice Ap0_3 p0.fExtras.length cp0_3] 26 (0, 0)) :: H, (13, ⟨.slice A933 l932.length c934, 29, 3, l932.length, l932.flatMap GQuestion.enc⟩) :: R, φ11⟩ (fun _ h => h) <| c_seq <| c_region <| g_v rfl (r_field (n := 0) Try.underlying29 rfl Try.sizeOf9 rfl rfl) <| g_v rfl (r_load (tag := 100060) rfl rfl rfl Try.isAgg9) ?_
   replace hm := bnd hm
   obtain ⟨x959, hx960, hm⟩ := hm
   refine g_cn ⟨w0, M, _, _, φ11⟩ (fun _ h => h) Try.call8 rfl rfl (c_law18_short x954.fName 300 _ hx960) (fun _ _ => ?_)
   refine g_v rfl (r_field (n := 0) Try.underlying29 rfl Try.sizeOf9 rfl rfl) <| g_storeL (tag := 100060) rfl rfl rfl rfl Try.sizeOf9 rfl rfl <| g_nil <| d_then <| c_region <| g_v rfl r_move <| g_v rfl (r_loadA (tag := 100060) rfl rfl Try.isAgg29 Try.sizeOf29 rfl rfl) ?_
   refine g_e rfl (e_lit (tag := 100360) (l := [(⟨x959, x954.fType, x954.fClass⟩ : GQuestion)]) (enc := GQuestion.enc) (sz := 3) rfl Try.underlying23 (lit29_6 _ _ _) rfl rfl (fun _ => rfl)) (fun g961 _ => ?_)
   replace hm := bnd hm
   obtain ⟨l962, hl962, hm⟩ := hm
   refine g_e rfl (e_appR (enc := GQuestion.enc) (l := l932) (l1 := [(⟨x959, x954.fType, x954.fClass⟩ : GQuestion)]) (l2 := l962) (tag := 13) Try.underlying23 inf29_8 rfl (by decide) (by decide) (fun _ => rfl) (fun _ => rfl) rfl hc934 rfl rfl (fun W hS => rowCl (tag := 100360) rfl W hS) hl962) (fun ⟨A963, c964⟩ hc964 => ?_)
   refine g_v rfl r_assign <| g_nil <| d_normal_block <| d_then ?_
   refine c_flat [(1, .pointer (some ⟨g1, 0, none⟩)), (3, .bool x2), (4, .slice A963 l962.length c964), (5, .int .i64 i935)] ⟨rfl, rfl, rfl, rfl, trivial⟩ (fun u => ?_)
   refine c_sta ⟨w0, M, (100060, g958, .cells #[.string x959, .int .u16 x954.fType, .int .u16 x954.fClass] 29 (0, 0)) :: (100010, g1, .cells #[.int .u16 p0.fID, .bool p0.fResponse, .bool p0.fAuthoritative, .bool p0.fTruncated, .bool p0.fDesired, .bool p0.fAvailable, .int .i64 p0.fOpcode, .int .i64 p0.fCode, .slice A8 l7.length c9, .slice Ap0_1 p0.fAnswers.length cp0_1, .slice Ap0_2 p0.fAuthorities.length cp0_2, .slice Ap0_3 p0.fExtras.length cp0_3] 26 (0, 0)) :: H, (100360, ⟨.slice (some ⟨g961, 0, none⟩) [(⟨x959, x954.fType, x954.fClass⟩ : GQuestion)].length 1, 29, 3, [(⟨x959, x954.fType, x954.fClass⟩ : GQuestion)].length, [(⟨x959, x954.fType, x954.fClass⟩ : GQuestion)].flatMap GQuestion.enc⟩) :: (13, ⟨.slice A963 l962.length c964, 29, 3, l962.length, l962.flatMap GQuestion.enc⟩) :: R, φ11⟩ (fun _ h => h) <| c_region <| g_v rfl r_move <| g_v rfl (r_add rfl rfl rfl) <| g_v rfl r_assign <| g_nil ?_
   obtain ⟨n965, hn965, hlp⟩ := nx_inl hm hnx5
   exact d_round (n965, l962, w64 (i935 + 1), A963, c964) ⟨hlp, hc964⟩ hn965 ⟨rfl, rfl, rfl, rfl, trivial⟩ (fun W h => ((h.dropR (t := 100360) rfl).dropH (t := 100060) rfl).phi (fun W hφ => hφ))
  replace hm := ite_f hm (of_decide_eq_false h953)
  refine c_exit <| d_exit_then <| d_exit_then <| d_exit_block ?_
  replace hm := nx_out (C := (fun e : (List GQuestion) => m_law18_AuthOdd_j2 p0 x2 e = some r)) hm hnx5 hr5
  exact d_round (l932, A933, c934) ⟨hm, hc934⟩ Nat.zero_lt_one ⟨rfl, rfl, rfl, trivial⟩ (fun W h => h.phi (fun W hφ => hφ))
 unfold m_law18_AuthOdd_j2 at hm
 refine d_flat [(1, .pointer (some ⟨g1, 0, none⟩)), (3, .bool x2), (4, .slice A99 l98.length c100)] ⟨rfl, rfl, rfl, trivial⟩ (fun u => ?_)
 refine d_sta ⟨w0, M, (100010, g1, .cells #[.int .u16 p0.fID, .bool p0.fResponse, .bool p0.fAuthoritative, .bool p0.fTruncated, .bool p0.fDesired, .bool p0.fAvailable, .int .i64 p0.fOpcode, .int .i64 p0.fCode, .slice A8 l7.length c9, .slice Ap0_1 p0.fAnswers.length cp0_1, .slice Ap0_2 p0.fAuthorities.length cp0_2, .slice Ap0_3 p0.fExtras.length cp0_3] 26 (0, 0)) :: H, (13, ⟨.slice A99 l98.length c100, 29, 3, l98.length, l98.flatMap GQuestion.enc⟩) :: R, φ11⟩ (fun _ h => h) <| d_then <| c_seq <| c_region <| g_v rfl r_move <| g_v rfl (r_field (n := 8) Try.underlying26 rfl Try.sizeOf23 rfl rfl) <| g_storeL (tag := 100010) rfl rfl rfl rfl Try.sizeOf23 rfl rfl <| g_nil <| d_then <| c_seq ?_
 refine c_cut (ι := Int × Bool × Bool × Bool × Bool × Bool × Int × Int × (List GQuestion) × (List GRR) × (List GRR) × (List GRR) × Nat × Option Addr × Nat × Option Addr × Nat × Option Addr × Nat × Option Addr × Nat) [1, 3, 4, 7] (fun ⟨i577, b578, b579, b580, b581, b582, i583, i584, l585, l589, l593, l597, g576, A586, c587, A590, c591, A594, c595, A598, c599⟩ => [(7, .pointer (some ⟨g576, 0, none⟩))]) (fun ⟨i577, b578, b579, b580, b581, b582, i583, i584, l585, l589, l593, l597, g576, A586, c587, A590, c591, A594, c595, A598, c599⟩ => ⟨w0, M, (100070, g576, .cells #[.int .u16 i577, .bool b578, .bool b579, .bool b580, .bool b581, .bool b582, .int .i64 i583, .int .i64 i584, .slice A586 l585.length c587, .slice A590 l589.length c591, .slice A594 l593.length c595, .slice A598 l597.length c599] 26 (0, 0)) :: (100010, g1, .cells #[.int .u16 p0.fID, .bool p0.fResponse, .bool p0.fAuthoritative, .bool p0.fTruncated, .bool p0.fDesired, .bool p0.fAvailable, .int .i64 p0.fOpcode, .int .i64 p0.fCode, .slice A99 l98.length c100, .slice Ap0_1 p0.fAnswers.length cp0_1, .slice Ap0_2 p0.fAuthorities.length cp0_2, .slice Ap0_3 p0.fExtras.length cp0_3] 26 (0, 0)) :: H, (13, ⟨.slice A99 l98.length c100, 29, 3, l98.length, l98.flatMap GQuestion.enc⟩) :: R, fun W => φ11 W ∧ Cl W A586 (l585.flatMap GQuestion.enc) ∧ Cl W A590 (l589.flatMap GRR.enc) ∧ Cl W A594 (l593.flatMap GRR.enc) ∧ Cl W A598 (l597.flatMap GRR.enc)⟩) (fun ⟨i577, b578, b579, b580, b581, b582, i583, i584, l585, l589, l593, l597, g576, A586, c587, A590, c591, A594, c595, A598, c599⟩ => m_law18_AuthOdd_j3 p0 x2 l98 i577 b578 b579 b580 b581 b582 i583 i584 l585 l589 l593 l597 = some r ∧ l585.length ≤ c587 ∧ l589.length ≤ c591 ∧ l593.length ≤ c595 ∧ l597.length ≤ c599) ?_ (fun ⟨i577, b578, b579, b580, b581, b582, i583, i584, l585, l589, l593, l597, g576, A586, c587, A590, c591, A594, c595, A598, c599⟩ u ⟨hm, hc587, hc591, hc595, hc599⟩ => ?_)
 ·
  refine ga_start (n := 6) ⟨w0, M, (100010, g1, .cells #[.int .u16 p0.fID, .bool p0.fResponse, .bool p0.fAuthoritative, .bool p0.fTruncated, .bool p0.fDesired, .bool p0.fAvailable, .int .i64 p0.fOpcode, .int .i64 p0.fCode, .slice A99 l98.length c100, .slice Ap0_1 p0.fAnswers.length cp0_1, .slice Ap0_2 p0.fAuthorities.length cp0_2, .slice Ap0_3 p0.fExtras.length cp0_3] 26 (0, 0)) :: H, (13, ⟨.slice A99 l98.length c100, 29, 3, l98.length, l98.flatMap GQuestion.enc⟩) :: R, φ11⟩ [5] #[false, false, false, false, false, false] (fun W h => h.phi (fun W hφ => hφ)) mixed rfl rfl <| ga_v (i := 2) (bz 6 4) rfl (by kernel_rfl) (fun _ _ _ _ h => h) rfl (r_loadA (tag := 100010) rfl rfl Try.isAgg26 Try.sizeOf26 rfl rfl) ?_
  replace hm := bnd hm
  obtain ⟨x821, hx822, hm⟩ := hm
  refine ga_two (i := 0) (j := 4) (bz 6 5) (bz 6 20) rfl rfl (by kernel_rfl) (by decide) (by decide) ?_ ?_
  ·
   refine ex_cn (first := #[]) ⟨w0, M, _, _, φ11⟩ (fun _ h => h) Try.call10 rfl rfl rfl (c_law18_example  _ hx822) (fun ⟨A824, c825⟩ W hc825 h => (h.phi (fun _ hh => hh.1)).phi (fun W hφ => hφ)) (fun ⟨A824, c825⟩ hc825 => ?_)
   refine ga_abs (fun φ827 q827' => ?_)
   have q827 : ∀ W, φ827 W → φ11 W := fun W h => (q827' W h).1
   have f826 := fun (W : World) (h : φ827 W) => (q827' W h).2
   refine ga_two (i := 1) (j := 4) (bz 6 7) (bz 6 21) rfl rfl (by kernel_rfl) (by decide) (by decide) ?_ ?_
   ·
    have hk832 := (DOk.cons (cap := GZone.capP) (x := x821) (p := (⟨A824, c825⟩ : GZoneP)) (hc825) DOk.nil)
    have f833 := fun (W : World) (h : φ827 W) => (DOwn.cons (own := GZone.ownP) (x := x821) (p := (⟨A824, c825⟩ : GZoneP)) (f826 W h) DOwn.nil)
    refine ex_e rfl (e_litD (tag := 100410) (enc := GZone.encP) (sz := 2) hk832 rfl Try.underlying35 (lit33_4 _ _ _ _) rfl rfl (fun _ => rfl)) (fun g831 W _ h => (h.dropR (t := 100410) rfl).phi (fun W hφ => (q827 _ hφ))) (fun g831 _ => ?_)
    replace hm := bnd hm
    obtain ⟨x836, hx837, hm⟩ := hm
    refine ga_two (i := 3) (j := 4) (bz 6 15) (bz 6 23) rfl rfl (by kernel_rfl) (by decide) (by decide) ?_ ?_
    ·
     refine ex_shut (tag := 100410) rfl (fun φ838 q838' => ?_)
     have q838 : ∀ W, φ838 W → φ827 W := fun W h => (q838' W h).1
     have f839 := fun (W : World) (h : φ838 W) => (q838' W h).2
     refine ex_cn (first := #[]) ⟨w0, M, _, _, φ838⟩ (fun _ h => h) Try.call9 rfl rfl rfl (c_auth_Answer [x821] (some ⟨g831, 0, none⟩) 1 [(⟨A824, c825⟩ : GZoneP)] ⟨hk832, (Nat.le_refl _)⟩ (fun W h => f839 W h) (fun W h => (f833 W (q838 _ h))) (⟨p0.fID, p0.fResponse, p0.fAuthoritative, p0.fTruncated, p0.fDesired, p0.fAvailable, p0.fOpcode, p0.fCode, l98, p0.fAnswers, p0.fAuthorities, p0.fExtras⟩ : GMessage) A99 c100 hc100 (fun W hS => rowCl (tag := 13) rfl W hS) Ap0_1 cp0_1 hcp0_1 (fun W hS => fp0_1 W (ok_pre (H1 := [_]) (R1 := [_]) hS (fun W h => (q11 _ (q827 _ (q838 _ h)))))) Ap0_2 cp0_2 hcp0_2 (fun W hS => fp0_2 W (ok_pre (H1 := [_]) (R1 := [_]) hS (fun W h => (q11 _ (q827 _ (q838 _ h)))))) Ap0_3 cp0_3 hcp0_3 (fun W hS => fp0_3 W (ok_pre (H1 := [_]) (R1 := [_]) hS (fun W h => (q11 _ (q827 _ (q838 _ h)))))) _ hx837) (fun ⟨A840, c841, A843, c844, A846, c847, A849, c850⟩ W ⟨hc841, hc844, hc847, hc850⟩ h => (h.phi (fun _ hh => hh.1)).phi (fun W hφ => (q827 _ (q838 _ hφ)))) (fun ⟨A840, c841, A843, c844, A846, c847, A849, c850⟩ ⟨hc841, hc844, hc847, hc850⟩ => ?_)
     refine ga_abs (fun φ852 q852' => ?_)
     have q852 : ∀ W, φ852 W → φ838 W := fun W h => (q852' W h).1
     have f842 := fun (W : World) (h : φ852 W) => (q852' W h).2.1
     have f845 := fun (W : World) (h : φ852 W) => (q852' W h).2.2.1
     have f848 := fun (W : World) (h : φ852 W) => (q852' W h).2.2.2.1
     have f851 := fun (W : World) (h : φ852 W) => (q852' W h).2.2.2.2
     refine ga_e (i := 4) (bz 6 31) rfl (by kernel_rfl) (by decide) rfl  (e_alloc 100070 Try.zeroValue26) (fun g853 W _ h => (h.dropH (t := 100070) rfl).phi (fun W hφ => (q827 _ (q838 _ (q852 _ hφ))))) (fun g853 _ => ?_)
     refine ga_lastL (i := 5) (tag := 100070) (bz 6 63) rfl (by kernel_rfl) (by decide) rfl rfl rfl rfl Try.sizeOf26 rfl rfl <| gz_done (by kernel_rfl) ?_
     exact d_round (x836.fID, x836.fResponse, x836.fAuthoritative, x836.fTruncated, x836.fDesired, x836.fAvailable, x836.fOpcode, x836.fCode, x836.fQuestions, x836.fAnswers, x836.fAuthorities, x836.fExtras, g853, A840, c841, A843, c844, A846, c847, A849, c850) ⟨hm, hc841, hc844, hc847, hc850⟩ Nat.zero_lt_one ⟨rfl, rfl, rfl, rfl, trivial⟩ (fun W h => h.phi (fun W hφ => ⟨(q827 _ (q838 _ (q852 _ hφ))), (fun W h => f842 W h) W hφ, (fun W h => f845 W h) W hφ, (fun W h => f848 W h) W hφ, (fun W h => f851 W h) W hφ⟩))
    refine ex_e rfl (e_alloc 100070 Try.zeroValue26) (fun g854 W _ h => ((h.dropR (t := 100410) rfl).dropH (t := 100070) rfl).phi (fun W hφ => (q827 _ hφ))) (fun g854 _ => ?_)
    refine ga_shut (tag := 100410) rfl (fun φ855 q855' => ?_)
    have q855 : ∀ W, φ855 W → φ827 W := fun W h => (q855' W h).1
    have f856 := fun (W : World) (h : φ855 W) => (q855' W h).2
    refine ga_cn (first := #[]) (i := 3) (bz 6 31) rfl (by kernel_rfl) (by decide)  ⟨w0, M, _, _, φ855⟩ (fun _ h => h) Try.call9 rfl rfl rfl (c_auth_Answer [x821] (some ⟨g831, 0, none⟩) 1 [(⟨A824, c825⟩ : GZoneP)] ⟨hk832, (Nat.le_refl _)⟩ (fun W h => f856 W h) (fun W h => (f833 W (q855 _ h))) (⟨p0.fID, p0.fResponse, p0.fAuthoritative, p0.fTruncated, p0.fDesired, p0.fAvailable, p0.fOpcode, p0.fCode, l98, p0.fAnswers, p0.fAuthorities, p0.fExtras⟩ : GMessage) A99 c100 hc100 (fun W hS => rowCl (tag := 13) rfl W hS) Ap0_1 cp0_1 hcp0_1 (fun W hS => fp0_1 W (ok_pre (H1 := [_, _]) (R1 := [_]) hS (fun W h => (q11 _ (q827 _ (q855 _ h)))))) Ap0_2 cp0_2 hcp0_2 (fun W hS => fp0_2 W (ok_pre (H1 := [_, _]) (R1 := [_]) hS (fun W h => (q11 _ (q827 _ (q855 _ h)))))) Ap0_3 cp0_3 hcp0_3 (fun W hS => fp0_3 W (ok_pre (H1 := [_, _]) (R1 := [_]) hS (fun W h => (q11 _ (q827 _ (q855 _ h)))))) _ hx837) (fun ⟨A857, c858, A860, c861, A863, c864, A866, c867⟩ W ⟨hc858, hc861, hc864, hc867⟩ h => ((h.phi (fun _ hh => hh.1)).dropH (t := 100070) rfl).phi (fun W hφ => (q827 _ (q855 _ hφ)))) (fun ⟨A857, c858, A860, c861, A863, c864, A866, c867⟩ ⟨hc858, hc861, hc864, hc867⟩ => ?_)
    refine ga_abs (fun φ869 q869' => ?_)
    have q869 : ∀ W, φ869 W → φ855 W := fun W h => (q869' W h).1
    have f859 := fun (W : World) (h : φ869 W) => (q869' W h).2.1
    have f862 := fun (W : World) (h : φ869 W) => (q869' W h).2.2.1
    have f865 := fun (W : World) (h : φ869 W) => (q869' W h).2.2.2.1
    have f868 := fun (W : World) (h : φ869 W) => (q869' W h).2.2.2.2
    refine ga_lastL (i := 5) (tag := 100070) (bz 6 63) rfl (by kernel_rfl) (by decide) rfl rfl rfl rfl Try.sizeOf26 rfl rfl <| gz_done (by kernel_rfl) ?_
    exact d_round (x836.fID, x836.fResponse, x836.fAuthoritative, x836.fTruncated, x836.fDesired, x836.fAvailable, x836.fOpcode, x836.fCode, x836.fQuestions, x836.fAnswers, x836.fAuthorities, x836.fExtras, g854, A857, c858, A860, c861, A863, c864, A866, c867) ⟨hm, hc858, hc861, hc864, hc867⟩ Nat.zero_lt_one ⟨rfl, rfl, rfl, rfl, trivial⟩ (fun W h => h.phi (fun W hφ => ⟨(q827 _ (q855 _ (q869 _ hφ))), (fun W h => f859 W h) W hφ, (fun W h => f862 W h) W hφ, (fun W h => f865 W h) W hφ, (fun W h => f868 W h) W hφ⟩))
   refine ex_e rfl (e_alloc 100070 Try.zeroValue26) (fun g870 W _ h => (h.dropH (t := 100070) rfl).phi (fun W hφ => (q827 _ hφ))) (fun g870 _ => ?_)
   have hk872 := (DOk.cons (cap := GZone.capP) (x := x821) (p := (⟨A824, c825⟩ : GZoneP)) (hc825) DOk.nil)
   have f873 := fun (W : World) (h : φ827 W) => (DOwn.cons (own := GZone.ownP) (x := x821) (p := (⟨A824, c825⟩ : GZoneP)) (f826 W h) DOwn.nil)
   refine ga_e (i := 1) (bz 6 23) rfl (by kernel_rfl) (by decide) rfl  (e_litD (tag := 100410) (enc := GZone.encP) (sz := 2) hk872 rfl Try.underlying35 (lit33_4 _ _ _ _) rfl rfl (fun _ => rfl)) (fun g871 W _ h => ((h.dropR (t := 100410) rfl).dropH (t := 100070) rfl).phi (fun W hφ => (q827 _ hφ))) (fun g871 _ => ?_)
   refine ga_shut (tag := 100410) rfl (fun φ874 q874' => ?_)
   have q874 : ∀ W, φ874 W → φ827 W := fun W h => (q874' W h).1
   have f875 := fun (W : World) (h : φ874 W) => (q874' W h).2
   replace hm := bnd hm
   obtain ⟨x876, hx877, hm⟩ := hm
   refine ga_cn (first := #[]) (i := 3) (bz 6 31) rfl (by kernel_rfl) (by decide)  ⟨w0, M, _, _, φ874⟩ (fun _ h => h) Try.call9 rfl rfl rfl (c_auth_Answer [x821] (some ⟨g871, 0, none⟩) 1 [(⟨A824, c825⟩ : GZoneP)] ⟨hk872, (Nat.le_refl _)⟩ (fun W h => f875 W h) (fun W h => (f873 W (q874 _ h))) (⟨p0.fID, p0.fResponse, p0.fAuthoritative, p0.fTruncated, p0.fDesired, p0.fAvailable, p0.fOpcode, p0.fCode, l98, p0.fAnswers, p0.fAuthorities, p0.fExtras⟩ : GMessage) A99 c100 hc100 (fun W hS => rowCl (tag := 13) rfl W hS) Ap0_1 cp0_1 hcp0_1 (fun W hS => fp0_1 W (ok_pre (H1 := [_, _]) (R1 := [_]) hS (fun W h => (q11 _ (q827 _ (q874 _ h)))))) Ap0_2 cp0_2 hcp0_2 (fun W hS => fp0_2 W (ok_pre (H1 := [_, _]) (R1 := [_]) hS (fun W h => (q11 _ (q827 _ (q874 _ h)))))) Ap0_3 cp0_3 hcp0_3 (fun W hS => fp0_3 W (ok_pre (H1 := [_, _]) (R1 := [_]) hS (fun W h => (q11 _ (q827 _ (q874 _ h)))))) _ hx877) (fun ⟨A878, c879, A881, c882, A884, c885, A887, c888⟩ W ⟨hc879, hc882, hc885, hc888⟩ h => ((h.phi (fun _ hh => hh.1)).dropH (t := 100070) rfl).phi (fun W hφ => (q827 _ (q874 _ hφ)))) (fun ⟨A878, c879, A881, c882, A884, c885, A887, c888⟩ ⟨hc879, hc882, hc885, hc888⟩ => ?_)
   refine ga_abs (fun φ890 q890' => ?_)
   have q890 : ∀ W, φ890 W → φ874 W := fun W h => (q890' W h).1
   have f880 := fun (W : World) (h : φ890 W) => (q890' W h).2.1
   have f883 := fun (W : World) (h : φ890 W) => (q890' W h).2.2.1
   have f886 := fun (W : World) (h : φ890 W) => (q890' W h).2.2.2.1
   have f889 := fun (W : World) (h : φ890 W) => (q890' W h).2.2.2.2
   refine ga_lastL (i := 5) (tag := 100070) (bz 6 63) rfl (by kernel_rfl) (by decide) rfl rfl rfl rfl Try.sizeOf26 rfl rfl <| gz_done (by kernel_rfl) ?_
   exact d_round (x876.fID, x876.fResponse, x876.fAuthoritative, x876.fTruncated, x876.fDesired, x876.fAvailable, x876.fOpcode, x876.fCode, x876.fQuestions, x876.fAnswers, x876.fAuthorities, x876.fExtras, g870, A878, c879, A881, c882, A884, c885, A887, c888) ⟨hm, hc879, hc882, hc885, hc888⟩ Nat.zero_lt_one ⟨rfl, rfl, rfl, rfl, trivial⟩ (fun W h => h.phi (fun W hφ => ⟨(q827 _ (q874 _ (q890 _ hφ))), (fun W h => f880 W h) W hφ, (fun W h => f883 W h) W hφ, (fun W h => f886 W h) W hφ, (fun W h => f889 W h) W hφ⟩))
  refine ex_e rfl (e_alloc 100070 Try.zeroValue26) (fun g891 W _ h => (h.dropH (t := 100070) rfl).phi (fun W hφ => hφ)) (fun g891 _ => ?_)
  refine ga_cn (first := #[]) (i := 0) (bz 6 21) rfl (by kernel_rfl) (by decide)  ⟨w0, M, _, _, φ11⟩ (fun _ h => h) Try.call10 rfl rfl rfl (c_law18_example  _ hx822) (fun ⟨A892, c893⟩ W hc893 h => ((h.phi (fun _ hh => hh.1)).dropH (t := 100070) rfl).phi (fun W hφ => hφ)) (fun ⟨A892, c893⟩ hc893 => ?_)
  refine ga_abs (fun φ895 q895' => ?_)
  have q895 : ∀ W, φ895 W → φ11 W := fun W h => (q895' W h).1
  have f894 := fun (W : World) (h : φ895 W) => (q895' W h).2
  have hk897 := (DOk.cons (cap := GZone.capP) (x := x821) (p := (⟨A892, c893⟩ : GZoneP)) (hc893) DOk.nil)
  have f898 := fun (W : World) (h : φ895 W) => (DOwn.cons (own := GZone.ownP) (x := x821) (p := (⟨A892, c893⟩ : GZoneP)) (f894 W h) DOwn.nil)
  refine ga_e (i := 1) (bz 6 23) rfl (by kernel_rfl) (by decide) rfl  (e_litD (tag := 100410) (enc := GZone.encP) (sz := 2) hk897 rfl Try.underlying35 (lit33_4 _ _ _ _) rfl rfl (fun _ => rfl)) (fun g896 W _ h => ((h.dropR (t := 100410) rfl).dropH (t := 100070) rfl).phi (fun W hφ => (q895 _ hφ))) (fun g896 _ => ?_)
  refine ga_shut (tag := 100410) rfl (fun φ899 q899' => ?_)
  have q899 : ∀ W, φ899 W → φ895 W := fun W h => (q899' W h).1
  have f900 := fun (W : World) (h : φ899 W) => (q899' W h).2
  replace hm := bnd hm
  obtain ⟨x901, hx902, hm⟩ := hm
  refine ga_cn (first := #[]) (i := 3) (bz 6 31) rfl (by kernel_rfl) (by decide)  ⟨w0, M, _, _, φ899⟩ (fun _ h => h) Try.call9 rfl rfl rfl (c_auth_Answer [x821] (some ⟨g896, 0, none⟩) 1 [(⟨A892, c893⟩ : GZoneP)] ⟨hk897, (Nat.le_refl _)⟩ (fun W h => f900 W h) (fun W h => (f898 W (q899 _ h))) (⟨p0.fID, p0.fResponse, p0.fAuthoritative, p0.fTruncated, p0.fDesired, p0.fAvailable, p0.fOpcode, p0.fCode, l98, p0.fAnswers, p0.fAuthorities, p0.fExtras⟩ : GMessage) A99 c100 hc100 (fun W hS => rowCl (tag := 13) rfl W hS) Ap0_1 cp0_1 hcp0_1 (fun W hS => fp0_1 W (ok_pre (H1 := [_, _]) (R1 := [_]) hS (fun W h => (q11 _ (q895 _ (q899 _ h)))))) Ap0_2 cp0_2 hcp0_2 (fun W hS => fp0_2 W (ok_pre (H1 := [_, _]) (R1 := [_]) hS (fun W h => (q11 _ (q895 _ (q899 _ h)))))) Ap0_3 cp0_3 hcp0_3 (fun W hS => fp0_3 W (ok_pre (H1 := [_, _]) (R1 := [_]) hS (fun W h => (q11 _ (q895 _ (q899 _ h)))))) _ hx902) (fun ⟨A903, c904, A906, c907, A909, c910, A912, c913⟩ W ⟨hc904, hc907, hc910, hc913⟩ h => ((h.phi (fun _ hh => hh.1)).dropH (t := 100070) rfl).phi (fun W hφ => (q895 _ (q899 _ hφ)))) (fun ⟨A903, c904, A906, c907, A909, c910, A912, c913⟩ ⟨hc904, hc907, hc910, hc913⟩ => ?_)
  refine ga_abs (fun φ915 q915' => ?_)
  have q915 : ∀ W, φ915 W → φ899 W := fun W h => (q915' W h).1
  have f905 := fun (W : World) (h : φ915 W) => (q915' W h).2.1
  have f908 := fun (W : World) (h : φ915 W) => (q915' W h).2.2.1
  have f911 := fun (W : World) (h : φ915 W) => (q915' W h).2.2.2.1
  have f914 := fun (W : World) (h : φ915 W) => (q915' W h).2.2.2.2
  refine ga_lastL (i := 5) (tag := 100070) (bz 6 63) rfl (by kernel_rfl) (by decide) rfl rfl rfl rfl Try.sizeOf26 rfl rfl <| gz_done (by kernel_rfl) ?_
  exact d_round (x901.fID, x901.fResponse, x901.fAuthoritative, x901.fTruncated, x901.fDesired, x901.fAvailable, x901.fOpcode, x901.fCode, x901.fQuestions, x901.fAnswers, x901.fAuthorities, x901.fExtras, g891, A903, c904, A906, c907, A909, c910, A912, c913) ⟨hm, hc904, hc907, hc910, hc913⟩ Nat.zero_lt_one ⟨rfl, rfl, rfl, rfl, trivial⟩ (fun W h => h.phi (fun W hφ => ⟨(q895 _ (q899 _ (q915 _ hφ))), (fun W h => f905 W h) W hφ, (fun W h => f908 W h) W hφ, (fun W h => f911 W h) W hφ, (fun W h => f914 W h) W hφ⟩))
 unfold m_law18_AuthOdd_j3 at hm
 refine d_abs (fun φ601 q601' => ?_)
 have q601 : ∀ W, φ601 W → φ11 W := fun W h => (q601' W h).1
 have f588 := fun (W : World) (h : φ601 W) => (q601' W h).2.1
 have f592 := fun (W : World) (h : φ601 W) => (q601' W h).2.2.1
 have f596 := fun (W : World) (h : φ601 W) => (q601' W h).2.2.2.1
 have f600 := fun (W : World) (h : φ601 W) => (q601' W h).2.2.2.2
 refine d_flat [(1, .pointer (some ⟨g1, 0, none⟩)), (3, .bool x2), (4, .slice A99 l98.length c100), (7, .pointer (some ⟨g576, 0, none⟩))] ⟨rfl, rfl, rfl, rfl, trivial⟩ (fun u => ?_)
 refine d_sta ⟨w0, M, (100070, g576, .cells #[.int .u16 i577, .bool b578, .bool b579, .bool b580, .bool b581, .bool b582, .int .i64 i583, .int .i64 i584, .slice A586 l585.length c587, .slice A590 l589.length c591, .slice A594 l593.length c595, .slice A598 l597.length c599] 26 (0, 0)) :: (100010, g1, .cells #[.int .u16 p0.fID, .bool p0.fResponse, .bool p0.fAuthoritative, .bool p0.fTruncated, .bool p0.fDesired, .bool p0.fAvailable, .int .i64 p0.fOpcode, .int .i64 p0.fCode, .slice A99 l98.length c100, .slice Ap0_1 p0.fAnswers.length cp0_1, .slice Ap0_2 p0.fAuthorities.length cp0_2, .slice Ap0_3 p0.fExtras.length cp0_3] 26 (0, 0)) :: H, (13, ⟨.slice A99 l98.length c100, 29, 3, l98.length, l98.flatMap GQuestion.enc⟩) :: R, φ601⟩ (fun _ h => h) <| d_then <| c_seq <| c_region <| g_v rfl r_assign <| g_nil <| d_then <| c_seq ?_
 refine c_cut (ι := Int) [1, 3, 7, 8] (fun i611 => [(8, .int .i64 i611)]) (fun i611 => ⟨w0, M, (100070, g576, .cells #[.int .u16 i577, .bool b578, .bool b579, .bool b580, .bool b581, .bool b582, .int .i64 i583, .int .i64 i584, .slice A586 l585.length c587, .slice A590 l589.length c591, .slice A594 l593.length c595, .slice A598 l597.length c599] 26 (0, 0)) :: (100010, g1, .cells #[.int .u16 p0.fID, .bool p0.fResponse, .bool p0.fAuthoritative, .bool p0.fTruncated, .bool p0.fDesired, .bool p0.fAvailable, .int .i64 p0.fOpcode, .int .i64 p0.fCode, .slice A99 l98.length c100, .slice Ap0_1 p0.fAnswers.length cp0_1, .slice Ap0_2 p0.fAuthorities.length cp0_2, .slice Ap0_3 p0.fExtras.length cp0_3] 26 (0, 0)) :: H, (13, ⟨.slice A99 l98.length c100, 29, 3, l98.length, l98.flatMap GQuestion.enc⟩) :: R, φ601⟩) (fun i611 => m_law18_AuthOdd_j4 i577 p0 i583 b578 b582 b580 b581 x2 i584 l589 l593 l597 l585 i611 = some r) ?_ (fun i611 u hm => ?_)
 ·
  refine c_seq <| c_region <| g_v rfl (r_field (n := 1) Try.underlying26 rfl Try.sizeOf4 rfl rfl) <| g_v rfl (r_load (tag := 100010) rfl rfl rfl Try.isAgg4) <| g_v rfl r_move ?_
  refine g_if rfl rfl rfl rfl rfl (fun h622 => ?_) (fun h622 => ?_)
  ·
   replace hm := ite_f hm (bool_nt h622)
   refine g_v rfl r_move <| g_do rfl rfl rfl rfl rfl h622 <| g_v rfl (r_lenL Try.underlying23 rfl) <| g_do rfl rfl rfl rfl rfl h622 <| g_v rfl (r_neq rfl rfl) <| g_v rfl (r_pick0 rfl h622) <| g_nil <| d_then ?_
   refine c_cond rfl (fun h623 => ?_) (fun h623 => ?_)
   ·
    replace hm := ite_t hm (of_decide_eq_true h623)
    refine c_region <| g_v rfl r_assign <| g_nil ?_
    exact d_round 1 hm Nat.zero_lt_one ⟨rfl, rfl, rfl, rfl, trivial⟩ (fun W h => h.phi (fun W hφ => hφ))
   replace hm := ite_f hm (of_decide_eq_false h623)
   refine c_seq <| c_region <| g_v rfl (r_field (n := 6) Try.underlying26 rfl Try.sizeOf3 rfl rfl) <| g_v rfl (r_load (tag := 100010) rfl rfl rfl Try.isAgg3) <| g_v rfl (r_neq rfl rfl) <| g_nil <| d_then ?_
   refine c_flat [(1, .pointer (some ⟨g1, 0, none⟩)), (3, .bool x2), (4, .slice A99 l98.length c100), (7, .pointer (some ⟨g576, 0, none⟩)), (8, .int .i64 (-1)), (53, .bool (decide (p0.fOpcode ≠ 0)))] ⟨rfl, rfl, rfl, rfl, rfl, rfl, trivial⟩ (fun u => ?_)
   refine c_cond rfl (fun h624 => ?_) (fun h624 => ?_)
   ·
    replace hm := ite_t hm (of_decide_eq_true h624)
    refine c_region <| g_v rfl r_assign <| g_nil ?_
    exact d_round 4 hm Nat.zero_lt_one ⟨rfl, rfl, rfl, rfl, trivial⟩ (fun W h => h.phi (fun W hφ => hφ))
   replace hm := ite_f hm (of_decide_eq_false h624)
   refine c_seq <| c_region <| g_v rfl r_move ?_
   replace hm := bnd hm
   obtain ⟨x625, hx625, hm⟩ := hm
   refine g_know _ (fun W hS => cl_at (p := (Sta.ok ⟨w0, M, (100070, g576, .cells #[.int .u16 i577, .bool b578, .bool b579, .bool b580, .bool b581, .bool b582, .int .i64 i583, .int .i64 i584, .slice A586 l585.length c587, .slice A590 l589.length c591, .slice A594 l593.length c595, .slice A598 l597.length c599] 26 (0, 0)) :: (100010, g1, .cells #[.int .u16 p0.fID, .bool p0.fResponse, .bool p0.fAuthoritative, .bool p0.fTruncated, .bool p0.fDesired, .bool p0.fAvailable, .int .i64 p0.fOpcode, .int .i64 p0.fCode, .slice A99 l98.length c100, .slice Ap0_1 p0.fAnswers.length cp0_1, .slice Ap0_2 p0.fAuthorities.length cp0_2, .slice Ap0_3 p0.fExtras.length cp0_3] 26 (0, 0)) :: H, (13, ⟨.slice A99 l98.length c100, 29, 3, l98.length, l98.flatMap GQuestion.enc⟩) :: R, φ601⟩)) (sz := 3) (fun _ => rfl) (by decide) hS (fun W hS => rowCl (S := ⟨w0, M, (100070, g576, .cells #[.int .u16 i577, .bool b578, .bool b579, .bool b580, .bool b581, .bool b582, .int .i64 i583, .int .i64 i584, .slice A586 l585.length c587, .slice A590 l589.length c591, .slice A594 l593.length c595, .slice A598 l597.length c599] 26 (0, 0)) :: (100010, g1, .cells #[.int .u16 p0.fID, .bool p0.fResponse, .bool p0.fAuthoritative, .bool p0.fTruncated, .bool p0.fDesired, .bool p0.fAvailable, .int .i64 p0.fOpcode, .int .i64 p0.fCode, .slice A99 l98.length c100, .slice Ap0_1 p0.fAnswers.length cp0_1, .slice Ap0_2 p0.fAuthorities.length cp0_2, .slice Ap0_3 p0.fExtras.length cp0_3] 26 (0, 0)) :: H, (13, ⟨.slice A99 l98.length c100, 29, 3, l98.length, l98.flatMap GQuestion.enc⟩) :: R, φ601⟩) (tag := 13) rfl W hS) hx625) ?_
   rintro ⟨ad626, hA628, f627⟩
   refine g_v rfl (r_ix Try.underlying23 Try.sizeOf29 rfl hA628 rfl hx625) ?_
   have f629 := fun (W : World) (h : (Sta.ok ⟨w0, M, (100070, g576, .cells #[.int .u16 i577, .bool b578, .bool b579, .bool b580, .bool b581, .bool b582, .int .i64 i583, .int .i64 i584, .slice A586 l585.length c587, .slice A590 l589.length c591, .slice A594 l593.length c595, .slice A598 l597.length c599] 26 (0, 0)) :: (100010, g1, .cells #[.int .u16 p0.fID, .bool p0.fResponse, .bool p0.fAuthoritative, .bool p0.fTruncated, .bool p0.fDesired, .bool p0.fAvailable, .int .i64 p0.fOpcode, .int .i64 p0.fCode, .slice A99 l98.length c100, .slice Ap0_1 p0.fAnswers.length cp0_1, .slice Ap0_2 p0.fAuthorities.length cp0_2, .slice Ap0_3 p0.fExtras.length cp0_3] 26 (0, 0)) :: H, (13, ⟨.slice A99 l98.length c100, 29, 3, l98.length, l98.flatMap GQuestion.enc⟩) :: R, φ601⟩) W) => Cl.drop (f627 W h) 2
   refine g_v rfl (r_fieldF Try.underlying29 rfl Try.sizeOf22 rfl) <| g_v rfl (r_ld rfl Try.isAgg22 (fun W hS => Cl.head (f629 W hS))) <| g_v rfl (r_neq rfl rfl) <| g_nil <| d_then ?_
   refine c_cond rfl (fun h630 => ?_) (fun h630 => ?_)
   ·
    replace hm := ite_t hm (of_decide_eq_true h630)
    refine c_region <| g_v rfl r_assign <| g_nil ?_
    exact d_round 5 hm Nat.zero_lt_one ⟨rfl, rfl, rfl, rfl, trivial⟩ (fun W h => h.phi (fun W hφ => hφ))
   replace hm := ite_f hm (of_decide_eq_false h630)
   refine c_skip ?_
   exact d_round (-1) hm Nat.zero_lt_one ⟨rfl, rfl, rfl, rfl, trivial⟩ (fun W h => h.phi (fun W hφ => hφ))
  replace hm := ite_t hm h622
  refine g_no rfl rfl rfl rfl rfl h622 <| g_no rfl rfl rfl rfl rfl h622 <| g_v rfl (r_pick1 rfl h622) <| g_nil <| d_then <| c_cond1 rfl rfl <| c_region <| g_v rfl r_assign <| g_nil ?_
  exact d_round 1 hm Nat.zero_lt_one ⟨rfl, rfl, rfl, rfl, trivial⟩ (fun W h => h.phi (fun W hφ => hφ))
 unfold m_law18_AuthOdd_j4 at hm
 refine d_flat [(1, .pointer (some ⟨g1, 0, none⟩)), (3, .bool x2), (7, .pointer (some ⟨g576, 0, none⟩)), (8, .int .i64 i611)] ⟨rfl, rfl, rfl, rfl, trivial⟩ (fun u => ?_)
 refine d_then <| c_seq <| c_seq <| c_region <| g_v rfl (r_field (n := 0) Try.underlying26 rfl Try.sizeOf22 rfl rfl) <| g_v rfl (r_load (tag := 100070) rfl rfl rfl Try.isAgg22) <| g_v rfl (r_field (n := 0) Try.underlying26 rfl Try.sizeOf22 rfl rfl) <| g_v rfl (r_load (tag := 100010) rfl rfl rfl Try.isAgg22) <| g_v rfl (r_neq rfl rfl) <| g_v rfl r_move ?_
 refine g_if rfl rfl rfl rfl rfl (fun h612 => ?_) (fun h612 => ?_)
 ·
  replace hm := ite_f hm (of_decide_eq_false h612)
  refine g_v rfl (r_field (n := 6) Try.underlying26 rfl Try.sizeOf3 rfl rfl) <| g_do rfl rfl rfl rfl rfl h612 <| g_v rfl (r_load (tag := 100070) rfl rfl rfl Try.isAgg3) <| g_do rfl rfl rfl rfl rfl h612 <| g_v rfl (r_field (n := 6) Try.underlying26 rfl Try.sizeOf3 rfl rfl) <| g_do rfl rfl rfl rfl rfl h612 <| g_v rfl (r_load (tag := 100010) rfl rfl rfl Try.isAgg3) <| g_do rfl rfl rfl rfl rfl h612 <| g_v rfl (r_neq rfl rfl) <| g_v rfl (r_pick0 rfl h612) ?_
  refine g_v rfl r_move ?_
  refine g_if rfl rfl rfl rfl rfl (fun h613 => ?_) (fun h613 => ?_)
  ·
   replace hm := ite_f hm (of_decide_eq_false h613)
   refine g_v rfl (r_field (n := 1) Try.underlying26 rfl Try.sizeOf4 rfl rfl) <| g_do rfl rfl rfl rfl rfl h613 <| g_v rfl (r_load (tag := 100070) rfl rfl rfl Try.isAgg4) <| g_do rfl rfl rfl rfl rfl h613 <| g_v rfl (r_not rfl) <| g_v rfl (r_pick0 rfl h613) <| g_v rfl r_move ?_
   refine g_if rfl rfl rfl rfl rfl (fun h614 => ?_) (fun h614 => ?_)
   ·
    have h614' : b578 = true := by revert h614; cases b578 <;> simp
    replace hm := ite_t hm h614'
    refine g_v rfl (r_field (n := 5) Try.underlying26 rfl Try.sizeOf4 rfl rfl) <| g_do rfl rfl rfl rfl rfl h614 <| g_v rfl (r_load (tag := 100070) rfl rfl rfl Try.isAgg4) <| g_v rfl (r_pick0 rfl h614) <| g_v rfl r_move ?_
    refine g_if rfl rfl rfl rfl rfl (fun h615 => ?_) (fun h615 => ?_)
    ·
     replace hm := ite_f hm (bool_nt h615)
     refine g_v rfl (r_field (n := 3) Try.underlying26 rfl Try.sizeOf4 rfl rfl) <| g_do rfl rfl rfl rfl rfl h615 <| g_v rfl (r_load (tag := 100070) rfl rfl rfl Try.isAgg4) <| g_v rfl (r_pick0 rfl h615) <| g_v rfl r_move ?_
     refine g_if rfl rfl rfl rfl rfl (fun h616 => ?_) (fun h616 => ?_)
     ·
      replace hm := ite_f hm (bool_nt h616)
      refine g_v rfl (r_field (n := 4) Try.underlying26 rfl Try.sizeOf4 rfl rfl) <| g_do rfl rfl rfl rfl rfl h616 <| g_v rfl (r_load (tag := 100070) rfl rfl rfl Try.isAgg4) <| g_do rfl rfl rfl rfl rfl h616 <| g_v rfl (r_field (n := 4) Try.underlying26 rfl Try.sizeOf4 rfl rfl) <| g_do rfl rfl rfl rfl rfl h616 <| g_v rfl (r_load (tag := 100010) rfl rfl rfl Try.isAgg4) <| g_do rfl rfl rfl rfl rfl h616 <| g_v rfl (r_neqBo Try.underlying4 rfl rfl) <| g_v rfl (r_pick0 rfl h616) ?_
      refine g_nil <| d_then ?_
      refine c_flat [(3, .bool x2), (7, .pointer (some ⟨g576, 0, none⟩)), (8, .int .i64 i611), (90, .bool (!(b581 == p0.fDesired)))] ⟨rfl, rfl, rfl, rfl, trivial⟩ (fun u => ?_)
      refine c_cond rfl (fun h617 => ?_) (fun h617 => ?_)
      ·
       replace hm := ite_t hm h617
       refine c_seq <| c_region <| g_v rfl r_assign <| g_nil <| d_then <| c_ret <| d_ret_then ?_
       cases hm
       exact d_retC () Try.results3 (res_tmp (res_nil rfl)) trivial (fun W h => ok_pre (H1 := [_, _]) (R1 := [_]) h (fun W hφ => (q11 _ (q601 _ hφ)))) (.inr rfl)
      replace hm := ite_f hm (bool_nt h617)
      refine c_skip <| d_then <| c_seq <| c_region <| g_v rfl r_move <| g_v rfl r_move ?_
      refine g_if rfl rfl rfl rfl rfl (fun h618 => ?_) (fun h618 => ?_)
      ·
       replace hm := ite_t hm h618
       refine g_v rfl r_move <| g_do rfl rfl rfl rfl rfl h618 <| g_v rfl (r_lss rfl rfl) <| g_do rfl rfl rfl rfl rfl h618 <| g_v rfl r_move ?_
       refine g_if rfl rfl rfl rfl rfl (fun h619 => ?_) (fun h619 => ?_)
       ·
        replace hm := ite_f hm (of_decide_eq_false h619)
        refine g_v rfl (r_field (n := 7) Try.underlying26 rfl Try.sizeOf3 rfl rfl) <| g_do rfl rfl rfl rfl rfl h619 <| g_v rfl (r_load (tag := 100070) rfl rfl rfl Try.isAgg3) <| g_do rfl rfl rfl rfl rfl h619 <| g_v rfl r_move <| g_do rfl rfl rfl rfl rfl h619 <| g_v rfl (r_eql rfl rfl) <| g_do rfl rfl rfl rfl rfl h619 <| g_v rfl r_move ?_
        refine g_if rfl rfl rfl rfl rfl (fun h620 => ?_) (fun h620 => ?_)
        ·
         replace hm := ite_t hm (of_decide_eq_true h620)
         refine g_v rfl (r_field (n := 9) Try.underlying26 rfl Try.sizeOf24 rfl rfl) <| g_do rfl rfl rfl rfl rfl h620 <| g_v rfl (r_load (tag := 100070) rfl rfl rfl Try.isAgg24) <| g_do rfl rfl rfl rfl rfl h620 <| g_v rfl (r_lenL Try.underlying24 rfl) <| g_do rfl rfl rfl rfl rfl h620 <| g_v rfl (r_field (n := 10) Try.underlying26 rfl Try.sizeOf24 rfl rfl) <| g_do rfl rfl rfl rfl rfl h620 <| g_v rfl (r_load (tag := 100070) rfl rfl rfl Try.isAgg24) <| g_do rfl rfl rfl rfl rfl h620 ?_
         refine g_v rfl (r_lenL Try.underlying24 rfl) <| g_do rfl rfl rfl rfl rfl h620 <| g_v rfl (r_add rfl rfl rfl) <| g_do rfl rfl rfl rfl rfl h620 <| g_v rfl (r_field (n := 11) Try.underlying26 rfl Try.sizeOf24 rfl rfl) <| g_do rfl rfl rfl rfl rfl h620 <| g_v rfl (r_load (tag := 100070) rfl rfl rfl Try.isAgg24) <| g_do rfl rfl rfl rfl rfl h620 <| g_v rfl (r_lenL Try.underlying24 rfl) <| g_do rfl rfl rfl rfl rfl h620 ?_
         refine g_v rfl (r_add rfl rfl rfl) <| g_do rfl rfl rfl rfl rfl h620 <| g_v rfl (r_eql rfl rfl) <| g_do rfl rfl rfl rfl rfl h619 <| g_v rfl (r_pick1 rfl h620) <| g_do rfl rfl rfl rfl rfl h619 <| g_v rfl r_move ?_
         refine g_if rfl rfl rfl rfl rfl (fun h621 => ?_) (fun h621 => ?_)
         ·
          replace hm := ite_t hm (of_decide_eq_true h621)
          refine g_v rfl r_move <| g_do rfl rfl rfl rfl rfl h621 <| g_v rfl (r_eql rfl rfl) <| g_do rfl rfl rfl rfl rfl h621 <| g_v rfl (r_field (n := 8) Try.underlying26 rfl Try.sizeOf23 rfl rfl) <| g_do rfl rfl rfl rfl rfl h621 <| g_v rfl (r_load (tag := 100070) rfl rfl rfl Try.isAgg23) <| g_do rfl rfl rfl rfl rfl h621 <| g_v rfl (r_lenL Try.underlying23 rfl) <| g_do rfl rfl rfl rfl rfl h621 ?_
          refine g_v rfl (r_eql rfl rfl) <| g_do rfl rfl rfl rfl rfl h621 <| g_v rfl (r_eqlBo Try.underlying4 rfl rfl) <| g_do rfl rfl rfl rfl rfl h619 <| g_v rfl (r_pick1 rfl h621) <| g_do rfl rfl rfl rfl rfl h618 <| g_v rfl (r_pick0 rfl h619) <| g_v rfl (r_pick1 rfl h618) <| g_v rfl r_assign <| g_nil ?_
          refine d_then ?_
          refine c_flat [(2, .bool ((decide (i611 = 1)) == (decide ((l585.length : Int) = 0))))] ⟨rfl, trivial⟩ (fun u => ?_)
          refine c_ret ?_
          cases hm
          exact d_retC () Try.results3 (res_tmp (res_nil rfl)) trivial (fun W h => ok_pre (H1 := [_, _]) (R1 := [_]) h (fun W hφ => (q11 _ (q601 _ hφ)))) (.inr rfl)
         replace hm := ite_f hm (of_decide_eq_false h621)
         iterate 6 refine g_no rfl rfl rfl rfl rfl h621 ?_
         refine g_do rfl rfl rfl rfl rfl h619 <| g_v rfl (r_pick0 rfl h621) <| g_do rfl rfl rfl rfl rfl h618 <| g_v rfl (r_pick0 rfl h619) <| g_v rfl (r_pick1 rfl h618) <| g_v rfl r_assign <| g_nil <| d_then ?_
         refine c_flat [(2, .bool false)] ⟨rfl, trivial⟩ (fun u => ?_)
         refine c_ret ?_
         cases hm
         exact d_retC () Try.results3 (res_tmp (res_nil rfl)) trivial (fun W h => ok_pre (H1 := [_, _]) (R1 := [_]) h (fun W hφ => (q11 _ (q601 _ hφ)))) (.inr rfl)
        replace hm := ite_f hm (of_decide_eq_false h620)
        iterate 11 refine g_no rfl rfl rfl rfl rfl h620 ?_
        refine g_do rfl rfl rfl rfl rfl h619 <| g_v rfl (r_pick0 rfl h620) <| g_do rfl rfl rfl rfl rfl h619 <| g_v rfl r_move ?_
        iterate 7 refine g_no rfl rfl rfl rfl rfl rfl ?_
        refine g_do rfl rfl rfl rfl rfl h619 <| g_v rfl (r_pick0 rfl rfl) <| g_do rfl rfl rfl rfl rfl h618 <| g_v rfl (r_pick0 rfl h619) <| g_v rfl (r_pick1 rfl h618) <| g_v rfl r_assign <| g_nil <| d_then ?_
        refine c_flat [(2, .bool false)] ⟨rfl, trivial⟩ (fun u => ?_)
        refine c_ret ?_
        cases hm
        exact d_retC () Try.results3 (res_tmp (res_nil rfl)) trivial (fun W h => ok_pre (H1 := [_, _]) (R1 := [_]) h (fun W hφ => (q11 _ (q601 _ hφ)))) (.inr rfl)
       replace hm := ite_t hm (of_decide_eq_true h619)
       iterate 4 refine g_no rfl rfl rfl rfl rfl h619 ?_
       iterate 12 refine g_nu rfl rfl rfl rfl rfl ?_
       refine g_no rfl rfl rfl rfl rfl h619 <| g_no rfl rfl rfl rfl rfl h619 ?_
       iterate 7 refine g_nu rfl rfl rfl rfl rfl ?_
       refine g_no rfl rfl rfl rfl rfl h619 <| g_do rfl rfl rfl rfl rfl h618 <| g_v rfl (r_pick1 rfl h619) <| g_v rfl (r_pick1 rfl h618) <| g_v rfl r_assign <| g_nil <| d_then <| c_ret ?_
       cases hm
       exact d_retC () Try.results3 (res_tmp (res_nil rfl)) trivial (fun W h => ok_pre (H1 := [_, _]) (R1 := [_]) h (fun W hφ => (q11 _ (q601 _ hφ)))) (.inr rfl)
      replace hm := ite_f hm (bool_nt h618)
      refine g_no rfl rfl rfl rfl rfl h618 <| g_no rfl rfl rfl rfl rfl h618 ?_
      iterate 27 refine g_nu rfl rfl rfl rfl rfl ?_
      refine g_no rfl rfl rfl rfl rfl h618 <| g_v rfl (r_pick0 rfl h618) <| g_v rfl r_assign <| g_nil <| d_then <| c_ret ?_
      cases hm
      exact d_retC () Try.results3 (res_tmp (res_nil rfl)) trivial (fun W h => ok_pre (H1 := [_, _]) (R1 := [_]) h (fun W hφ => (q11 _ (q601 _ hφ)))) (.inr rfl)
     replace hm := ite_t hm h616
     iterate 4 refine g_no rfl rfl rfl rfl rfl h616 ?_
     refine g_v rfl (r_pick1 rfl h616) <| g_nil <| d_then ?_
     refine c_flat [(3, .bool x2), (7, .pointer (some ⟨g576, 0, none⟩)), (8, .int .i64 i611), (90, .bool true)] ⟨rfl, rfl, rfl, rfl, trivial⟩ (fun u => ?_)
     refine c_cond1 rfl rfl <| c_seq <| c_region <| g_v rfl r_assign <| g_nil <| d_then <| c_ret <| d_ret_then ?_
     cases hm
     exact d_retC () Try.results3 (res_tmp (res_nil rfl)) trivial (fun W h => ok_pre (H1 := [_, _]) (R1 := [_]) h (fun W hφ => (q11 _ (q601 _ hφ)))) (.inr rfl)
    replace hm := ite_t hm h615
    refine g_no rfl rfl rfl rfl rfl h615 <| g_v rfl (r_pick1 rfl h615) <| g_v rfl r_move ?_
    iterate 5 refine g_no rfl rfl rfl rfl rfl rfl ?_
    refine g_v rfl (r_pick1 rfl rfl) <| g_nil <| d_then ?_
    refine c_flat [(3, .bool x2), (7, .pointer (some ⟨g576, 0, none⟩)), (8, .int .i64 i611), (90, .bool true)] ⟨rfl, rfl, rfl, rfl, trivial⟩ (fun u => ?_)
    refine c_cond1 rfl rfl <| c_seq <| c_region <| g_v rfl r_assign <| g_nil <| d_then <| c_ret <| d_ret_then ?_
    cases hm
    exact d_retC () Try.results3 (res_tmp (res_nil rfl)) trivial (fun W h => ok_pre (H1 := [_, _]) (R1 := [_]) h (fun W hφ => (q11 _ (q601 _ hφ)))) (.inr rfl)
   have h614' : b578 = false := by revert h614; cases b578 <;> simp
   replace hm := ite_f hm (bool_nt h614')
   refine g_no rfl rfl rfl rfl rfl h614 <| g_v rfl (r_pick1 rfl h614) <| g_v rfl r_move <| g_no rfl rfl rfl rfl rfl rfl <| g_no rfl rfl rfl rfl rfl rfl <| g_v rfl (r_pick1 rfl rfl) <| g_v rfl r_move ?_
   iterate 5 refine g_no rfl rfl rfl rfl rfl rfl ?_
   refine g_v rfl (r_pick1 rfl rfl) <| g_nil <| d_then ?_
   refine c_flat [(3, .bool x2), (7, .pointer (some ⟨g576, 0, none⟩)), (8, .int .i64 i611), (90, .bool true)] ⟨rfl, rfl, rfl, rfl, trivial⟩ (fun u => ?_)
   refine c_cond1 rfl rfl <| c_seq <| c_region <| g_v rfl r_assign <| g_nil <| d_then <| c_ret <| d_ret_then ?_
   cases hm
   exact d_retC () Try.results3 (res_tmp (res_nil rfl)) trivial (fun W h => ok_pre (H1 := [_, _]) (R1 := [_]) h (fun W hφ => (q11 _ (q601 _ hφ)))) (.inr rfl)
  replace hm := ite_t hm (of_decide_eq_true h613)
  refine g_no rfl rfl rfl rfl rfl h613 <| g_no rfl rfl rfl rfl rfl h613 <| g_v rfl (r_pick1 rfl h613) <| g_v rfl r_move <| g_no rfl rfl rfl rfl rfl rfl <| g_no rfl rfl rfl rfl rfl rfl <| g_v rfl (r_pick1 rfl rfl) <| g_v rfl r_move <| g_no rfl rfl rfl rfl rfl rfl <| g_no rfl rfl rfl rfl rfl rfl ?_
  refine g_v rfl (r_pick1 rfl rfl) <| g_v rfl r_move ?_
  iterate 5 refine g_no rfl rfl rfl rfl rfl rfl ?_
  refine g_v rfl (r_pick1 rfl rfl) <| g_nil <| d_then ?_
  refine c_flat [(3, .bool x2), (7, .pointer (some ⟨g576, 0, none⟩)), (8, .int .i64 i611), (90, .bool true)] ⟨rfl, rfl, rfl, rfl, trivial⟩ (fun u => ?_)
  refine c_cond1 rfl rfl <| c_seq <| c_region <| g_v rfl r_assign <| g_nil <| d_then <| c_ret <| d_ret_then ?_
  cases hm
  exact d_retC () Try.results3 (res_tmp (res_nil rfl)) trivial (fun W h => ok_pre (H1 := [_, _]) (R1 := [_]) h (fun W hφ => (q11 _ (q601 _ hφ)))) (.inr rfl)
 replace hm := ite_t hm (of_decide_eq_true h612)
 iterate 4 refine g_no rfl rfl rfl rfl rfl h612 ?_
 refine g_v rfl (r_pick1 rfl h612) <| g_v rfl r_move ?_
 iterate 3 refine g_no rfl rfl rfl rfl rfl rfl ?_
 refine g_v rfl (r_pick1 rfl rfl) <| g_v rfl r_move <| g_no rfl rfl rfl rfl rfl rfl <| g_no rfl rfl rfl rfl rfl rfl <| g_v rfl (r_pick1 rfl rfl) <| g_v rfl r_move <| g_no rfl rfl rfl rfl rfl rfl <| g_no rfl rfl rfl rfl rfl rfl <| g_v rfl (r_pick1 rfl rfl) <| g_v rfl r_move ?_
 iterate 5 refine g_no rfl rfl rfl rfl rfl rfl ?_
 refine g_v rfl (r_pick1 rfl rfl) <| g_nil <| d_then ?_
 refine c_flat [(3, .bool x2), (7, .pointer (some ⟨g576, 0, none⟩)), (8, .int .i64 i611), (90, .bool true)] ⟨rfl, rfl, rfl, rfl, trivial⟩ (fun u => ?_)
 refine c_cond1 rfl rfl <| c_seq <| c_region <| g_v rfl r_assign <| g_nil <| d_then <| c_ret <| d_ret_then ?_
 cases hm
 exact d_retC () Try.results3 (res_tmp (res_nil rfl)) trivial (fun W h => ok_pre (H1 := [_, _]) (R1 := [_]) h (fun W hφ => (q11 _ (q601 _ hφ)))) (.inr rfl)
end Go.Proofs.Ytjbfgaahonmclaa
